/- Texts put together. -/
import Derived.Test.YtbjcioknfjofkaaGreatMComposeReinsert2
import Derived.Test.YtbjcioknfjofkaaGreatMComposeReinsert18
import Derived.Test.YtbjcioknfjofkaaGreatMComposeReinsert30
import Derived.Test.YtbjcioknfjofkaaGreatMComposeReinsert31
set_option linter.unusedVariables false
set_option linter.unusedSimpArgs false
set_option maxRecDepth 100000
namespace Go.Proofs.YtbjcioknfjofkaaGreat
open Go.RowKit
def itemsR (t:Tree) (p:List Int) (x y:Int):List Tree × Int:=if (rowRes t p).2≠0 then ([],(rowRes t p).2) else if x < 0∨y < x∨(rowRes t p).1.kids.length < y then ([],2) else (((rowRes t p).1.kids.take y.toNat).drop x.toNat,0)
def ItemsRes (w:World) (r:List Tree × Int) (e:Ending) (w':World):Prop :=
 ∃ v,e = .returned (.tuple #[v,.int .i64 r.2])∧SliceR treeE w' (Lt w'.heap.size) r.1 v∧Below w.heap.size w w'
def RowV (w:World) (x:Tree) (er:Int) (e:Ending) (w':World):Prop :=
 ∃ v,e = .returned (.tuple #[.agg #[.int .i64 x.kind,.string x.text,.int .i64 x.cols,v],.int .i64 er])∧SliceR treeE w' (Lt w'.heap.size) x.kids v∧Below w.heap.size w w'
theorem rowRes_cntI (t:Tree) (p:List Int) {m:Nat} {w:World} {S:Nat→Prop} {v:Value} (hv:SliceR treeE w S t.kids v) (hok:NodeOk t) (h:countS t≤m):countsS (rowRes t p).1.kids≤m:=by
 have hz:countsS zeroT.kids≤m:=Nat.zero_le _
 unfold rowRes
 split
 ·exact hz
 ·split
  ·exact hz
  ·rename_i h1 h2
   have hr:=find_row t p
   rw [if_pos (by simpa using h2)] at hr
   have:=(rowS_ok t p _ hr hok ⟨v,hv⟩).2
   rw [countS_kids] at this
   show countsS (findS t p).1.kids≤m
   omega
theorem countsS_drop_leI (ts:List Tree) (k:Nat):countsS (ts.drop k)≤countsS ts:=by
 have h:=countsS_append (ts.take k) (ts.drop k)
 rw [List.take_append_drop] at h
 omega
end Go.Proofs.YtbjcioknfjofkaaGreat
namespace Go.Proofs.YtbjcioknfjofkaaGreat
open Go Go.RowKit Go.Shelf
attribute [local go_sem] Oper.semAt_some
def atL (L:List (List Int)) (i:Int):List Int × Int:=if 0≤i then (match L[i.toNat]? with | some q=>(q,0) | none=>([],2)) else ([],2)
end Go.Proofs.YtbjcioknfjofkaaGreat
namespace Go.Proofs.YtbjcioknfjofkaaGreat
theorem split_lt {L:List (List Int)} (h:L.Pairwise ltS) {i:Nat} (hi:i < L.length):(∀ a ∈ L.take i,ltS a L[i])∧(∀ b ∈ L.drop (i + 1),ltS L[i] b):=by
 have e:L.take i ++ L[i] :: L.drop (i + 1) = L:=by rw [← List.drop_eq_getElem_cons hi,List.take_append_drop]
 rw [← e,List.pairwise_append,List.pairwise_cons] at h
 exact ⟨fun a ha=>h.2.2 a ha _ (List.mem_cons_self),h.2.1.1⟩
theorem ltS_ne {a b:List Int} (h:ltS a b):a≠b:=fun e=>by subst e;unfold ltS at h;rw [cmpS_self] at h;omega
theorem take_at {L:List (List Int)} (h:L.Pairwise ltS) {i:Nat} (hi:i < L.length) {p:List Int} (hp:L[i] = p):L.takeWhile (fun q=>decide (q≠p)) = L.take i:=by
 subst hp
 obtain ⟨h1,_⟩:=split_lt h hi
 have e:L.takeWhile (fun q=>decide (q≠L[i])) = (L.take i ++ L[i] :: L.drop (i + 1)).takeWhile (fun q=>decide (q≠L[i])):=by rw [← List.drop_eq_getElem_cons hi,List.take_append_drop]
 rw [e,List.takeWhile_append_of_pos (fun a ha=>by simpa using ltS_ne (h1 a ha)),List.takeWhile_cons_of_neg (by simp),List.append_nil]
theorem next_at {L : List (List Int)} (h : L.Pairwise ltS) {i : Nat} (hi : i < L.length) {p : List Int} (hp : L[i] = p) : nextS L p = L[i + 1]? := by
  subst hp
  obtain ⟨h1, h2⟩ := split_lt h hi
  have e : nextS L L[i] = (L.take i ++ L[i] :: L.drop (i + 1)).find? (fun q => decide (0 < cmpS q L[i])) := by rw [← List.drop_eq_getElem_cons hi, List.take_append_drop]; rfl
  rw [e, List.find?_append, List.find?_eq_none.2 (fun a ha => by have := h1 a ha; unfold ltS at this; simp; omega), List.find?_cons_of_neg (by simp [cmpS_self])]
  simp only [Option.none_or]
  rw [← List.head?_drop]
  cases hd : L.drop (i + 1) with
  | nil => rfl
  | cons b r =>
    have := h2 b (by rw [hd]; exact List.mem_cons_self)
    unfold ltS at this
    rw [cmpS_swap b L[i]] at this
    rw [List.find?_cons_of_pos (by simp; omega)]; rfl
theorem idxS_spec {L:List (List Int)} {p:List Int} {i:Nat} (h:idxS L p = some i):∃ hi:i < L.length,L[i] = p:=by
 unfold idxS at h
 obtain ⟨hi,h1⟩:=List.findIdx?_eq_some_iff_getElem.1 h
 exact ⟨hi,by have:=h1.1;simpa [cmpS_zero] using this⟩
def stepO (L:List (List Int)) (o:Option Nat) (d:Int):List Int × Int:=match o with | some i=>(if (atL L ((i:Int) + d)).2 = 0 then ((atL L ((i:Int) + d)).1,0) else ([],8)) | none=>([],2)
def stepR (t:Tree) (p:List Int) (d:Int):List Int × Int:=if validS t then stepO (allS [] t) (idxS (allS [] t) p) d else ([],1)
theorem atL_nat (L:List (List Int)) (k:Nat) {i:Int} (h:i = (k:Int)):atL L i = (match L[k]? with | some q=>(q,0) | none=>([],2)):=by
 subst h;rw [atL,if_pos (by omega),Int.toNat_natCast];all_goals (cases L[k]? <;> rfl)
theorem idx_cases (t:Tree) (p:List Int):(posIn t p = true∧∃ i,idxS (allS [] t) p = some i∧∃ hi:i < (allS [] t).length,(allS [] t)[i] = p)∨(posIn t p = false∧idxS (allS [] t) p = none):=by
 have h:=idxS_isSome t p
 cases hp:posIn t p
 ·rw [hp] at h;exact .inr ⟨rfl,by cases hq:idxS (allS [] t) p with | none=>rfl | some i=>rw [hq] at h;cases h⟩
 ·rw [hp] at h
  cases hq:idxS (allS [] t) p with
  | none=>rw [hq] at h;cases h
  | some i=>exact .inl ⟨rfl,i,rfl,idxS_spec hq⟩
theorem next_eq (t:Tree) (p:List Int):nextR t p = stepR t p 1:=by
 unfold nextR stepR chkR
 cases hv:validS t
 ·simp
 ·rcases idx_cases t p with ⟨hp,i,hi,hl,he⟩ | ⟨hp,hi⟩
  ·rw [hp,hi]
   simp only [if_true,stepO]
   rw [next_at (allS_sorted [] t) hl he,atL_nat (allS [] t) (i + 1) (by omega)]
   cases (allS [] t)[i + 1]? <;> simp
  ·rw [hp,hi];simp [stepO]
theorem prev_eq (t:Tree) (p:List Int):prevR t p = stepR t p (-1):=by
 unfold prevR stepR chkR
 cases hv:validS t
 ·simp
 ·rcases idx_cases t p with ⟨hp,i,hi,hl,he⟩ | ⟨hp,hi⟩
  ·rw [hp,hi]
   simp only [if_true,stepO]
   rw [lastO,take_at (allS_sorted [] t) hl he]
   rcases i with _ | i
   ·simp [optR,atL]
   ·rw [atL_nat (allS [] t) i (by omega),List.getLast?_eq_getElem?]
    have:((allS [] t).take (i + 1)).length = i + 1:=by simp;omega
    rw [this,Nat.add_sub_cancel,List.getElem?_take_of_lt (by omega)]
    cases (allS [] t)[i]? <;> simp [optR]
  ·rw [hp,hi];simp [stepO]
end Go.Proofs.YtbjcioknfjofkaaGreat
namespace Go.Proofs.YtbjcioknfjofkaaGreat
open Go.RowKit
abbrev itemD (l:List Tree) (i:Nat):Tree:=l.getD i zeroT
def ItemsN (w:World) (r:List Tree × Int) (e:Ending) (w':World):Prop :=
 ∃ v,e = .returned (.tuple #[v,.int .i64 r.2])∧SliceR treeE w' (fun k=>w.heap.size≤k∧k < w'.heap.size) r.1 v∧Below w.heap.size w w'
set_option maxHeartbeats 4000000 in
theorem itemsN_any (t:Tree) (p:List Int) (x y:Int) (A Ap:Option Addr) (cap cp:Nat) (w:World) (hv:SliceR treeE w (Lt w.heap.size) t.kids (.slice A t.kids.length cap)) (hok:NodeOk t) (hct:countS t≤900000) (hp:IntsR w (Lt w.heap.size) p (.slice Ap p.length cp)) (hx:In64 x) (hy:In64 y) :
  Calls Tryz.prog 72 #[.agg #[.int .i64 t.kind,.string t.text,.int .i64 t.cols,.slice A t.kids.length cap],.agg #[.slice Ap p.length cp,.int .i64 x,.int .i64 y]] w (ItemsN w (itemsR t p x y)):=by
 have C1:Hid (∀ W,Below w.heap.size w W→Calls Tryz.prog 69 #[.agg #[.int .i64 t.kind,.string t.text,.int .i64 t.cols,.slice A t.kids.length cap],.slice Ap p.length cp] W (RowV W (rowRes t p).1 (rowRes t p).2)):=fun W hW=>(nRow_any (.mk t.kind t.text t.cols t.kids) p A Ap cap cp W (by exact hv.below hW hW.size) hok (by cases t;exact hct) (hp.below hW hW.size)).mono fun _ _ h=>by cases t;obtain ⟨v,h1,h2,h3⟩:=h;exact ⟨v,h1,h2.keep (sameRefl _ _) (fun k hk=>hk.2),h3⟩
 have HR:Hid (((rowRes t p).2≠0→itemsR t p x y = ([],(rowRes t p).2))∧((rowRes t p).2 = 0→(x < 0∨y < x∨(rowRes t p).1.kids.length < y)→itemsR t p x y = ([],2))∧((rowRes t p).2 = 0→¬ (x < 0∨y < x∨(rowRes t p).1.kids.length < y)→itemsR t p x y = (((rowRes t p).1.kids.take y.toNat).drop x.toNat,0))) :=
  ⟨fun h=>if_pos h,fun h1 h2=>(if_neg (by simp [h1])).trans (if_pos h2),fun h1 h2=>(if_neg (by simp [h1])).trans (if_neg h2)⟩
 have HC:Hid (countsS (rowRes t p).1.kids≤900000):=rowRes_cntI t p hv hok hct
 generalize itemsR t p x y = res at *
 generalize rowRes t p = r at *
 obtain ⟨tk,tx,tc,ts⟩:=t
 obtain ⟨⟨rk,rx,rc,rs⟩,er⟩:=r
 simp only [Tree.kind,Tree.text,Tree.cols,Tree.kids] at *
 clear hv hok hct hp
 generalize hW0:(w.alloc (Obj.cells #[.int .i64 tk,.string tx,.int .i64 tc,.slice A ts.length cap] 24)).alloc (.cells #[.slice Ap p.length cp,.int .i64 x,.int .i64 y] 46) = W0
 have KB:Hid (∀ W,Below W0.heap.size W0 W→(W.cell? ⟨w.heap.size,0,none⟩ = some (.int .i64 tk)∧W.cell? ⟨w.heap.size,1,none⟩ = some (.string tx)∧W.cell? ⟨w.heap.size,2,none⟩ = some (.int .i64 tc)∧W.cell? ⟨w.heap.size,3,none⟩ = some (.slice A ts.length cap)) ∧
   (W.cell? ⟨w.heap.size + 1,0,none⟩ = some (.slice Ap p.length cp)∧W.cell? ⟨w.heap.size + 1,1,none⟩ = some (.int .i64 x)∧W.cell? ⟨w.heap.size + 1,2,none⟩ = some (.int .i64 y))∧Below w.heap.size w W):=by
  intro W hW
  have hz:W0.heap.size = w.heap.size + 1 + 1:=by rw [← hW0];simp
  have hc:=(bcell hW).1
  have hbb:Below w.heap.size w W0:=by rw [← hW0];exact bl_alloc (below_allocR' _ _) _
  refine ⟨⟨(hc _ _ (by omega)).trans ?_,(hc _ _ (by omega)).trans ?_,(hc _ _ (by omega)).trans ?_,(hc _ _ (by omega)).trans ?_⟩,⟨(hc _ _ (by omega)).trans ?_,(hc _ _ (by omega)).trans ?_,(hc _ _ (by omega)).trans ?_⟩,hbb.trans (hW.mono hbb.size)⟩
  all_goals (rw [← hW0];first | exact na2_c _ _ _ _ _ _ rfl | exact na_c _ _ _ _ _ (by simp))
 obtain ⟨⟨m0,m1,m2,m3⟩,⟨c0,c1,c2⟩,hbw0⟩:=KB.out W0 (Below.refl _ _)
 have HBW0:=hid hbw0
 clear hbw0
 go_enter Tryz.func72,Tryz.ntmps72
 go_wp2_with fail
 refine (C1.out _ HBW0.out).mono ?_
 intro e w1 h1
 obtain ⟨v1,rfl,hr1,hb1⟩:∃ v,e = .returned (.tuple #[.agg #[.int .i64 rk,.string rx,.int .i64 rc,v],.int .i64 er])∧SliceR treeE w1 (Lt w1.heap.size) rs v∧Below W0.heap.size W0 w1:=h1
 obtain ⟨A1,n1,rfl⟩:=hr1.form
 have HI1:=hid hr1
 have HB1:=hid hb1
 clear m0 m1 m2 m3 c0 c1 c2 hr1 hb1
 rcases Decidable.em (er = 0) with he | he
 case inr =>
  have HE:=hid he
  have i0:(er != 0) = true:=by simpa using he
  go_wp2_with fail
  refine bodyPost_ret (v:=.tuple #[.slice none 0 0,.int .i64 er]) (by simp [results,Tryz.results72,go_sem]) rfl ?_
  rw [HR.out.1 HE.out]
  exact ⟨_,rfl,SliceR.nil_ 0 (Nat.zero_le _) none,bl_alloc (KB.out w1 HB1.out).2.2 _⟩
 subst he
 go_upto_region 4 with fail
 obtain ⟨X,hX⟩:∃ X,w1.alloc (Obj.cells #[.int .i64 rk,.string rx,.int .i64 rc,.slice A1 rs.length n1] 24) = X:=⟨_,rfl⟩
 rw [hX]
 have HXB:Hid (Below w1.heap.size w1 X):=by show Below _ _ _;rw [← hX];exact below_allocR' _ _
 obtain ⟨_,⟨_,b1,b2⟩,hbw⟩:=KB.out X (HB1.out.trans (HXB.out.mono HB1.out.size))
 have n3:X.cell? ⟨w1.heap.size,3,none⟩ = some (.slice A1 rs.length n1):=by rw [← hX];exact na_c _ _ _ _ _ rfl
 have HBW:=hid hbw
 have HIX:=hid (HI1.out.below HXB.out HXB.out.size)
 clear hbw hX
 have hn1:rs.length≤n1:=by obtain ⟨_,_,_,hq,h1,_⟩:=HI1.out;cases hq;exact h1
 rcases Int.lt_or_le x 0 with h0 | h0
 ·have i0:decide (x < 0) = true:=by simpa using h0
  have HH:=hid h0
  clear h0
  go_wp2_with fail
  refine bodyPost_ret (v:=.tuple #[.slice none 0 0,.int .i64 2]) (by simp [results,Tryz.results72,go_sem]) rfl ?_
  rw [HR.out.2.1 trivial (Or.inl HH.out)]
  exact ⟨_,rfl,SliceR.nil_ 0 (Nat.zero_le _) none,HBW.out⟩
 have i0:decide (x < 0) = false:=by simpa using h0
 rcases Int.lt_or_le y x with h1 | h1
 ·have i1:decide (y < x) = true:=by simpa using h1
  have HH:=hid h1
  clear h1 h0
  go_wp2_with fail
  refine bodyPost_ret (v:=.tuple #[.slice none 0 0,.int .i64 2]) (by simp [results,Tryz.results72,go_sem]) rfl ?_
  rw [HR.out.2.1 trivial (Or.inr (Or.inl HH.out))]
  exact ⟨_,rfl,SliceR.nil_ 0 (Nat.zero_le _) none,HBW.out⟩
 have i1:decide (y < x) = false:=by simpa using h1
 rcases Int.lt_or_le rs.length y with h2 | h2
 ·have i2:decide ((rs.length:Int) < y) = true:=by simpa using h2
  have HH:=hid h2
  clear h1 h0 h2
  go_wp2_with fail
  refine bodyPost_ret (v:=.tuple #[.slice none 0 0,.int .i64 2]) (by simp [results,Tryz.results72,go_sem]) rfl ?_
  rw [HR.out.2.1 trivial (Or.inr (Or.inr HH.out))]
  exact ⟨_,rfl,SliceR.nil_ 0 (Nat.zero_le _) none,HBW.out⟩
 have i2:decide ((rs.length:Int) < y) = false:=by simpa using h2
 obtain ⟨x',hx'⟩:∃ x':Nat,x = x':=⟨x.toNat,by omega⟩
 obtain ⟨y',hy'⟩:∃ y':Nat,y = y':=⟨y.toNat,by omega⟩
 obtain ⟨A2,hsl,hcut⟩:=cut_lh treeE Tryz.underlying22 size_node A1 rs.length n1 x y x' y' hx' hy' (by omega) (by omega) hn1
 have HCU:=hid (hcut _ _ _ HIX.out)
 have HRES:Hid (res = ((rs.take y').drop x',0)):=by
  have h:=HR.out.2.2 trivial (by show ¬ (x < 0∨y < x∨(rs.length:Int) < y);omega)
  rw [hx',hy',Int.toNat_natCast,Int.toNat_natCast] at h
  exact h
 have hlen:Hid (((rs.take y').drop x').length = y' - x'):=by show _ = _;simp;omega
 have hcnt:Hid (countsS ((rs.take y').drop x')≤900000):=by
  have h1:=countsS_drop_leI (rs.take y') x'
  have h2:=countsS_take_le rs y'
  have h3:=HC.out
  show _≤_
  omega
 clear hcut h0 h1 h2 HR hx' hy'
 go_wp2_with fail
 refine (deepNodes_any _ _ _ HCU.out (Nat.le_trans hcnt.out (by omega))).mono ?_
 generalize (rs.take y').drop x' = L at *
 rintro e w2 ⟨v2,rfl,ho2,hb2⟩
 obtain ⟨A3,n3',rfl⟩:=ho2.form
 have HO2:=hid ho2
 have HB2:=hid hb2
 clear ho2 hb2
 go_wp2_with fail
 refine bodyPost_ret (v:=.tuple #[.slice A3 L.length n3',.int .i64 0]) (by simp [results,Tryz.results72,go_sem]) rfl ?_
 rw [HRES.out]
 exact ⟨_,rfl,HO2.out.rows.keep (fun _ _=>rfl) (fun k hk=>⟨Nat.le_trans HBW.out.size hk.1,hk.2⟩),HBW.out.trans (HB2.out.mono HBW.out.size)⟩
end Go.Proofs.YtbjcioknfjofkaaGreat
