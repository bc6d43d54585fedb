/- Texts put together. -/
import Derived.Test.YtbjcioknfjofkaaGreatQb55496f77f
import Derived.Test.YtbjcioknfjofkaaGreatQ6da73ac3b1
import Derived.Test.YtbjcioknfjofkaaGreatQ5f8487fc8c
import Derived.Test.YtbjcioknfjofkaaGreatQ5a422e823d
import Derived.Test.YtbjcioknfjofkaaGreatQ9bddb35c8b
import Derived.Test.YtbjcioknfjofkaaGreatQ439271f138
import Derived.Test.YtbjcioknfjofkaaGreatQ31a24e25c3
set_option linter.unusedVariables false
set_option linter.unusedSimpArgs false
set_option maxRecDepth 100000
namespace Go.Proofs.YtbjcioknfjofkaaGreat
open Go.RowKit
def zCd (t:Tree) (p:List Int) (x y:Int):List Tree × Int:=if (zAg t p).2≠0 then ([],(zAg t p).2) else if x < 0∨y < x∨(zAg t p).1.kids.length < y then ([],2) else (((zAg t p).1.kids.take y.toNat).drop x.toNat,0)
def ItemsRes (w:World) (r:List Tree × Int) (e:Ending) (w':World):Prop :=
 ∃ v,e = .returned (.tuple #[v,.int .i64 r.2])∧zAa zAb w' (Lt w'.heap.size) r.1 v∧Below w.heap.size w w'
def RowV (w:World) (x:Tree) (er:Int) (e:Ending) (w':World):Prop :=
 ∃ v,e = .returned (.tuple #[.agg #[.int .i64 x.kind,.string x.text,.int .i64 x.cols,v],.int .i64 er])∧zAa zAb w' (Lt w'.heap.size) x.kids v∧Below w.heap.size w w'
theorem zHt (t:Tree) (p:List Int) {m:Nat} {w:World} {S:Nat→Prop} {v:Value} (hv:zAa zAb w S t.kids v) (hok:zAu t) (h:zAe t≤m):zAd (zAg t p).1.kids≤m:=by
 have hz:zAd zAx.kids≤m:=Nat.zero_le _
 unfold zAg
 split
 ·exact hz
 ·split
  ·exact hz
  ·rename_i h1 h2
   have hr:=zEw t p
   rw [if_pos (by simpa using h2)] at hr
   have:=(zJ7 t p _ hr hok ⟨v,hv⟩).2
   rw [zA7] at this
   show zAd (zAm t p).1.kids≤m
   omega
theorem zE0 (ts:List Tree) (k:Nat):zAd (ts.drop k)≤zAd ts:=by
 have h:=zB8 (ts.take k) (ts.drop k)
 rw [List.take_append_drop] at h
 omega
end Go.Proofs.YtbjcioknfjofkaaGreat
namespace Go.Proofs.YtbjcioknfjofkaaGreat
open Go Go.RowKit Go.Shelf
attribute [local go_sem] Oper.semAt_some
def atL (L:List (List Int)) (i:Int):List Int × Int:=if 0≤i then (match L[i.toNat]? with | some q=>(q,0) | none=>([],2)) else ([],2)
def atR (t:Tree) (i:Int):List Int × Int:=if zAf t then atL (allS [] t) i else ([],1)
end Go.Proofs.YtbjcioknfjofkaaGreat
namespace Go.Proofs.YtbjcioknfjofkaaGreat
theorem zNq {L:List (List Int)} (h:L.Pairwise ltS) {i:Nat} (hi:i < L.length):(∀ a ∈ L.take i,ltS a L[i])∧(∀ b ∈ L.drop (i + 1),ltS L[i] b):=by
 have e:L.take i ++ L[i] :: L.drop (i + 1) = L:=by rw [← List.drop_eq_getElem_cons hi,List.take_append_drop]
 rw [← e,List.pairwise_append,List.pairwise_cons] at h
 exact ⟨fun a ha=>h.2.2 a ha _ (List.mem_cons_self),h.2.1.1⟩
theorem ltS_ne {a b:List Int} (h:ltS a b):a≠b:=fun e=>by subst e;unfold ltS at h;rw [zGf] at h;omega
theorem take_at {L:List (List Int)} (h:L.Pairwise ltS) {i:Nat} (hi:i < L.length) {p:List Int} (hp:L[i] = p):L.takeWhile (fun q=>decide (q≠p)) = L.take i:=by
 subst hp
 obtain ⟨h1,_⟩:=zNq h hi
 have e:L.takeWhile (fun q=>decide (q≠L[i])) = (L.take i ++ L[i] :: L.drop (i + 1)).takeWhile (fun q=>decide (q≠L[i])):=by rw [← List.drop_eq_getElem_cons hi,List.take_append_drop]
 rw [e,List.takeWhile_append_of_pos (fun a ha=>by simpa using ltS_ne (h1 a ha)),List.takeWhile_cons_of_neg (by simp),List.append_nil]
theorem next_at {L : List (List Int)} (h : L.Pairwise ltS) {i : Nat} (hi : i < L.length) {p : List Int} (hp : L[i] = p) : zMw L p = L[i + 1]? := by
  subst hp
  obtain ⟨h1, h2⟩ := zNq h hi
  have e : zMw L L[i] = (L.take i ++ L[i] :: L.drop (i + 1)).find? (fun q => decide (0 < cmpS q L[i])) := by rw [← List.drop_eq_getElem_cons hi, List.take_append_drop]; rfl
  rw [e, List.find?_append, List.find?_eq_none.2 (fun a ha => by have := h1 a ha; unfold ltS at this; simp; omega), List.find?_cons_of_neg (by simp [zGf])]
  simp only [Option.none_or]
  rw [← List.head?_drop]
  cases hd : L.drop (i + 1) with
  | nil => rfl
  | cons b r =>
    have := h2 b (by rw [hd]; exact List.mem_cons_self)
    unfold ltS at this
    rw [zL8 b L[i]] at this
    rw [List.find?_cons_of_pos (by simp; omega)]; rfl
theorem zQd {L:List (List Int)} {p:List Int} {i:Nat} (h:idxS L p = some i):∃ hi:i < L.length,L[i] = p:=by
 unfold idxS at h
 obtain ⟨hi,h1⟩:=List.findIdx?_eq_some_iff_getElem.1 h
 exact ⟨hi,by have:=h1.1;simpa [zE8] using this⟩
def idxR (b:Bool) (o:Option Nat):Int × Int:=if b then (match o with | some i=>((i:Int),0) | none=>(0,2)) else (0,1)
def zKy (L:List (List Int)) (o:Option Nat) (d:Int):List Int × Int:=match o with | some i=>(if (atL L ((i:Int) + d)).2 = 0 then ((atL L ((i:Int) + d)).1,0) else ([],8)) | none=>([],2)
def zDy (t:Tree) (p:List Int) (d:Int):List Int × Int:=if zAf t then zKy (allS [] t) (idxS (allS [] t) p) d else ([],1)
theorem zNk (L:List (List Int)) (k:Nat) {i:Int} (h:i = (k:Int)):atL L i = (match L[k]? with | some q=>(q,0) | none=>([],2)):=by
 subst h;rw [atL,if_pos (by omega),Int.toNat_natCast];all_goals (cases L[k]? <;> rfl)
theorem zLt (t:Tree) (p:List Int):(zAs t p = true∧∃ i,idxS (allS [] t) p = some i∧∃ hi:i < (allS [] t).length,(allS [] t)[i] = p)∨(zAs t p = false∧idxS (allS [] t) p = none):=by
 have h:=zIa t p
 cases hp:zAs t p
 ·rw [hp] at h;exact .inr ⟨rfl,by cases hq:idxS (allS [] t) p with | none=>rfl | some i=>rw [hq] at h;cases h⟩
 ·rw [hp] at h
  cases hq:idxS (allS [] t) p with
  | none=>rw [hq] at h;cases h
  | some i=>exact .inl ⟨rfl,i,rfl,zQd hq⟩
theorem next_eq (t:Tree) (p:List Int):zMx t p = zDy t p 1:=by
 unfold zMx zDy chkR
 cases hv:zAf t
 ·simp
 ·rcases zLt t p with ⟨hp,i,hi,hl,he⟩ | ⟨hp,hi⟩
  ·rw [hp,hi]
   simp only [if_true,zKy]
   rw [next_at (zFv [] t) hl he,zNk (allS [] t) (i + 1) (by omega)]
   cases (allS [] t)[i + 1]? <;> simp
  ·rw [hp,hi];simp [zKy]
theorem prev_eq (t:Tree) (p:List Int):zMq t p = zDy t p (-1):=by
 unfold zMq zDy chkR
 cases hv:zAf t
 ·simp
 ·rcases zLt t p with ⟨hp,i,hi,hl,he⟩ | ⟨hp,hi⟩
  ·rw [hp,hi]
   simp only [if_true,zKy]
   rw [zHa,take_at (zFv [] t) hl he]
   rcases i with _ | i
   ·simp [optR,atL]
   ·rw [zNk (allS [] t) i (by omega),List.getLast?_eq_getElem?]
    have:((allS [] t).take (i + 1)).length = i + 1:=by simp;omega
    rw [this,Nat.add_sub_cancel,List.getElem?_take_of_lt (by omega)]
    cases (allS [] t)[i]? <;> simp [optR]
  ·rw [hp,hi];simp [zKy]
end Go.Proofs.YtbjcioknfjofkaaGreat
namespace Go.Proofs.YtbjcioknfjofkaaGreat
open Go.RowKit
abbrev zD8 (l:List Tree) (i:Nat):Tree:=l.getD i zAx
structure RecD where
 ops:List OpD
 bp:List Int
 bm:List Int
 ap:List Int
 am:List Int
def recZ:RecD:=⟨[],[],[],[],[]⟩
def noT:ByteArray:=⟨#[]⟩
def zBs (row:List Int) (a:Int) (l:List Tree):OpD:=⟨2,row,a,0,l,0,noT,noT⟩
def zI2 (t:Tree) (p m:List Int) (ops:List OpD) (pos:List Int):RecD × Int:=if (zBn t ops).2 = 0 then (⟨ops,p,m,pos,[]⟩,0) else (recZ,6)
def cutS (t:Tree) (r:List Int × Int × Int):List OpD:=if (zCd t r.1 r.2.1 r.2.2).1.length = 0 then [] else [zBs r.1 r.2.1 (zCd t r.1 r.2.1 r.2.2).1]
def zA3 (t:Tree) (p:List Int) (i:Int):Tree × Int :=
 if (zAg t p).2≠0 then (zAx,(zAg t p).2) else if i < 0∨((zAg t p).1.kids.length:Int)≤i then (zAx,2) else (zD8 (zAg t p).1.kids i.toNat,0)
structure AroD where
 row:List Int
 at_:Int
 own:Int
 item:Tree
def aroS (t:Tree) (p:List Int):Option AroD :=
 if p.length < 3 then none else some ⟨p.take (p.length - 3),p.getD (p.length - 3) 0,p.getD (p.length - 2) 0,(zA3 t (p.take (p.length - 3)) (p.getD (p.length - 3) 0)).1⟩
def zCf:List Tree→Int→Int→Bool
 | [],_,_=>false
 | k :: ks,i,but=>(decide (i≠but) && decide (0 < k.kids.length)) || zCf ks (i + 1) but
def unwS (x:AroD):OpD:=⟨4,x.row,x.at_,(kidS x.item x.own).kids.length,[zAr x.item x.own.toNat []],x.own,noT,noT⟩
def zEj (t:Tree) (p m:List Int) (back:Bool):RecD × Int :=
 if (zDy t p (if back then -1 else 1)).2≠0 then (recZ,(zDy t p (if back then -1 else 1)).2) else zI2 t p m [] (zDy t p (if back then -1 else 1)).1
def zD3 (t:Tree) (p m:List Int) (back:Bool):RecD × Int :=
 if (ofS t p m).2≠0 then (recZ,(ofS t p m).2)
 else if (ofS t p m).1.2.1 < (ofS t p m).1.2.2 then zI2 t p m (cutS t (ofS t p m).1) ((ofS t p m).1.1 ++ [(ofS t p m).1.2.1])
 else
  let row:=(zAg t p.dropLast).1.kids
  let i:=if back then p.getLastD 0 - 1 else p.getLastD 0
  if 0≤i∧i < row.length then
   (if zCf (zD8 row i.toNat).kids 0 (-1) = false then zI2 t p m [zBs p.dropLast i [zD8 row i.toNat]] (p.dropLast ++ [i]) else zEj t p m back)
  else match aroS t p with
   | some x=>if zCf x.item.kids 0 x.own = false then zI2 t p m [unwS x] (x.row ++ [if back then x.at_ else x.at_ + (unwS x).n]) else zEj t p m back
   | none=>zEj t p m back
def ItemsN (w:World) (r:List Tree × Int) (e:Ending) (w':World):Prop :=
 ∃ v,e = .returned (.tuple #[v,.int .i64 r.2])∧zAa zAb w' (fun k=>w.heap.size≤k∧k < w'.heap.size) r.1 v∧Below w.heap.size w w'
set_option maxHeartbeats 4000000 in
theorem zOu (t:Tree) (p:List Int) (x y:Int) (A Ap:Option Addr) (cap cp:Nat) (w:World) (hv:zAa zAb w (Lt w.heap.size) t.kids (.slice A t.kids.length cap)) (hok:zAu t) (hct:zAe t≤900000) (hp:zAh w (Lt w.heap.size) p (.slice Ap p.length cp)) (hx:In64 x) (hy:In64 y) :
  Calls Tryz.prog 72 #[.agg #[.int .i64 t.kind,.string t.text,.int .i64 t.cols,.slice A t.kids.length cap],.agg #[.slice Ap p.length cp,.int .i64 x,.int .i64 y]] w (ItemsN w (zCd t p x y)):=by
 have C1:Hid (∀ W,Below w.heap.size w W→Calls Tryz.prog 69 #[.agg #[.int .i64 t.kind,.string t.text,.int .i64 t.cols,.slice A t.kids.length cap],.slice Ap p.length cp] W (RowV W (zAg t p).1 (zAg t p).2)):=fun W hW=>(zKi (.mk t.kind t.text t.cols t.kids) p A Ap cap cp W (by exact hv.below hW hW.size) hok (by cases t;exact hct) (hp.below hW hW.size)).mono fun _ _ h=>by cases t;obtain ⟨v,h1,h2,h3⟩:=h;exact ⟨v,h1,h2.keep (zCu _ _) (fun k hk=>hk.2),h3⟩
 have HR:Hid (((zAg t p).2≠0→zCd t p x y = ([],(zAg t p).2))∧((zAg t p).2 = 0→(x < 0∨y < x∨(zAg t p).1.kids.length < y)→zCd t p x y = ([],2))∧((zAg t p).2 = 0→¬ (x < 0∨y < x∨(zAg t p).1.kids.length < y)→zCd t p x y = (((zAg t p).1.kids.take y.toNat).drop x.toNat,0))) :=
  ⟨fun h=>if_pos h,fun h1 h2=>(if_neg (by simp [h1])).trans (if_pos h2),fun h1 h2=>(if_neg (by simp [h1])).trans (if_neg h2)⟩
 have HC:Hid (zAd (zAg t p).1.kids≤900000):=zHt t p hv hok hct
 generalize zCd t p x y = res at *
 generalize zAg t p = r at *
 obtain ⟨tk,tx,tc,ts⟩:=t
 obtain ⟨⟨rk,rx,rc,rs⟩,er⟩:=r
 simp only [Tree.kind,Tree.text,Tree.cols,Tree.kids] at *
 clear hv hok hct hp
 generalize hW0:(w.alloc (Obj.cells #[.int .i64 tk,.string tx,.int .i64 tc,.slice A ts.length cap] 24)).alloc (.cells #[.slice Ap p.length cp,.int .i64 x,.int .i64 y] 46) = W0
 have KB:Hid (∀ W,Below W0.heap.size W0 W→(W.cell? ⟨w.heap.size,0,none⟩ = some (.int .i64 tk)∧W.cell? ⟨w.heap.size,1,none⟩ = some (.string tx)∧W.cell? ⟨w.heap.size,2,none⟩ = some (.int .i64 tc)∧W.cell? ⟨w.heap.size,3,none⟩ = some (.slice A ts.length cap)) ∧
   (W.cell? ⟨w.heap.size + 1,0,none⟩ = some (.slice Ap p.length cp)∧W.cell? ⟨w.heap.size + 1,1,none⟩ = some (.int .i64 x)∧W.cell? ⟨w.heap.size + 1,2,none⟩ = some (.int .i64 y))∧Below w.heap.size w W):=by
  intro W hW
  have hz:W0.heap.size = w.heap.size + 1 + 1:=by rw [← hW0];simp
  have hc:=(bcell hW).1
  have hbb:Below w.heap.size w W0:=by rw [← hW0];exact zCb (zAt _ _) _
  refine ⟨⟨(hc _ _ (by omega)).trans ?_,(hc _ _ (by omega)).trans ?_,(hc _ _ (by omega)).trans ?_,(hc _ _ (by omega)).trans ?_⟩,⟨(hc _ _ (by omega)).trans ?_,(hc _ _ (by omega)).trans ?_,(hc _ _ (by omega)).trans ?_⟩,hbb.trans (hW.mono hbb.size)⟩
  all_goals (rw [← hW0];first | exact zD1 _ _ _ _ _ _ rfl | exact na_c _ _ _ _ _ (by simp))
 obtain ⟨⟨m0,m1,m2,m3⟩,⟨c0,c1,c2⟩,hbw0⟩:=KB.out W0 (Below.refl _ _)
 have HBW0:=hid hbw0
 clear hbw0
 go_enter Tryz.func72,Tryz.ntmps72
 go_wp2_with fail
 refine (C1.out _ HBW0.out).mono ?_
 intro e w1 h1
 obtain ⟨v1,rfl,hr1,hb1⟩:∃ v,e = .returned (.tuple #[.agg #[.int .i64 rk,.string rx,.int .i64 rc,v],.int .i64 er])∧zAa zAb w1 (Lt w1.heap.size) rs v∧Below W0.heap.size W0 w1:=h1
 obtain ⟨A1,n1,rfl⟩:=hr1.form
 have HI1:=hid hr1
 have HB1:=hid hb1
 clear m0 m1 m2 m3 c0 c1 c2 hr1 hb1
 rcases Decidable.em (er = 0) with he | he
 case inr =>
  have HE:=hid he
  have i0:(er != 0) = true:=by simpa using he
  go_wp2_with fail
  refine bodyPost_ret (v:=.tuple #[.slice none 0 0,.int .i64 er]) (by simp [results,Tryz.results72,go_sem]) rfl ?_
  rw [HR.out.1 HE.out]
  exact ⟨_,rfl,zAa.nil_ 0 (Nat.zero_le _) none,zCb (KB.out w1 HB1.out).2.2 _⟩
 subst he
 go_upto_region 4 with fail
 obtain ⟨X,hX⟩:∃ X,w1.alloc (Obj.cells #[.int .i64 rk,.string rx,.int .i64 rc,.slice A1 rs.length n1] 24) = X:=⟨_,rfl⟩
 rw [hX]
 have HXB:Hid (Below w1.heap.size w1 X):=by show Below _ _ _;rw [← hX];exact zAt _ _
 obtain ⟨_,⟨_,b1,b2⟩,hbw⟩:=KB.out X (HB1.out.trans (HXB.out.mono HB1.out.size))
 have n3:X.cell? ⟨w1.heap.size,3,none⟩ = some (.slice A1 rs.length n1):=by rw [← hX];exact na_c _ _ _ _ _ rfl
 have HBW:=hid hbw
 have HIX:=hid (HI1.out.below HXB.out HXB.out.size)
 clear hbw hX
 have hn1:rs.length≤n1:=by obtain ⟨_,_,_,hq,h1,_⟩:=HI1.out;cases hq;exact h1
 rcases Int.lt_or_le x 0 with h0 | h0
 ·have i0:decide (x < 0) = true:=by simpa using h0
  have HH:=hid h0
  clear h0
  go_wp2_with fail
  refine bodyPost_ret (v:=.tuple #[.slice none 0 0,.int .i64 2]) (by simp [results,Tryz.results72,go_sem]) rfl ?_
  rw [HR.out.2.1 trivial (Or.inl HH.out)]
  exact ⟨_,rfl,zAa.nil_ 0 (Nat.zero_le _) none,HBW.out⟩
 have i0:decide (x < 0) = false:=by simpa using h0
 rcases Int.lt_or_le y x with h1 | h1
 ·have i1:decide (y < x) = true:=by simpa using h1
  have HH:=hid h1
  clear h1 h0
  go_wp2_with fail
  refine bodyPost_ret (v:=.tuple #[.slice none 0 0,.int .i64 2]) (by simp [results,Tryz.results72,go_sem]) rfl ?_
  rw [HR.out.2.1 trivial (Or.inr (Or.inl HH.out))]
  exact ⟨_,rfl,zAa.nil_ 0 (Nat.zero_le _) none,HBW.out⟩
 have i1:decide (y < x) = false:=by simpa using h1
 rcases Int.lt_or_le rs.length y with h2 | h2
 ·have i2:decide ((rs.length:Int) < y) = true:=by simpa using h2
  have HH:=hid h2
  clear h1 h0 h2
  go_wp2_with fail
  refine bodyPost_ret (v:=.tuple #[.slice none 0 0,.int .i64 2]) (by simp [results,Tryz.results72,go_sem]) rfl ?_
  rw [HR.out.2.1 trivial (Or.inr (Or.inr HH.out))]
  exact ⟨_,rfl,zAa.nil_ 0 (Nat.zero_le _) none,HBW.out⟩
 have i2:decide ((rs.length:Int) < y) = false:=by simpa using h2
 obtain ⟨x',hx'⟩:∃ x':Nat,x = x':=⟨x.toNat,by omega⟩
 obtain ⟨y',hy'⟩:∃ y':Nat,y = y':=⟨y.toNat,by omega⟩
 obtain ⟨A2,hsl,hcut⟩:=zIj zAb Tryz.underlying22 zCp A1 rs.length n1 x y x' y' hx' hy' (by omega) (by omega) hn1
 have HCU:=hid (hcut _ _ _ HIX.out)
 have HRES:Hid (res = ((rs.take y').drop x',0)):=by
  have h:=HR.out.2.2 trivial (by show ¬ (x < 0∨y < x∨(rs.length:Int) < y);omega)
  rw [hx',hy',Int.toNat_natCast,Int.toNat_natCast] at h
  exact h
 have hlen:Hid (((rs.take y').drop x').length = y' - x'):=by show _ = _;simp;omega
 have hcnt:Hid (zAd ((rs.take y').drop x')≤900000):=by
  have h1:=zE0 (rs.take y') x'
  have h2:=zAo rs y'
  have h3:=HC.out
  show _≤_
  omega
 clear hcut h0 h1 h2 HR hx' hy'
 go_wp2_with fail
 refine (zGe _ _ _ HCU.out (Nat.le_trans hcnt.out (by omega))).mono ?_
 generalize (rs.take y').drop x' = L at *
 rintro e w2 ⟨v2,rfl,ho2,hb2⟩
 obtain ⟨A3,n3',rfl⟩:=ho2.form
 have HO2:=hid ho2
 have HB2:=hid hb2
 clear ho2 hb2
 go_wp2_with fail
 refine bodyPost_ret (v:=.tuple #[.slice A3 L.length n3',.int .i64 0]) (by simp [results,Tryz.results72,go_sem]) rfl ?_
 rw [HRES.out]
 exact ⟨_,rfl,HO2.out.rows.keep (fun _ _=>rfl) (fun k hk=>⟨Nat.le_trans HBW.out.size hk.1,hk.2⟩),HBW.out.trans (HB2.out.mono HBW.out.size)⟩
set_option maxHeartbeats 4000000 in
theorem zQa (t:Tree) (p:List Int) (i:Int) (A Ap:Option Addr) (cap cp:Nat) (w:World) (hv:zAa zAb w (Lt w.heap.size) t.kids (.slice A t.kids.length cap)) (hok:zAu t) (hct:zAe t≤900000) (hp:zAh w (Lt w.heap.size) p (.slice Ap p.length cp)) :
  Calls Tryz.prog 70 #[.agg #[.int .i64 t.kind,.string t.text,.int .i64 t.cols,.slice A t.kids.length cap],.slice Ap p.length cp,.int .i64 i] w (RowQ w (zA3 t p i).1 (zA3 t p i).2):=by
 have C1:Hid (∀ W,Below w.heap.size w W→Calls Tryz.prog 49 #[.agg #[.int .i64 t.kind,.string t.text,.int .i64 t.cols,.slice A t.kids.length cap]] W fun e w'=>e = .returned (.bool (zAf t))∧Below W.heap.size W w'):=fun W hW=>zCc t A cap W (hv.below hW hW.size) hok.2.2
 have C2:Hid (∀ W,Below w.heap.size w W→W.cell? ⟨w.heap.size,0,none⟩ = some (.int .i64 t.kind)∧W.cell? ⟨w.heap.size,1,none⟩ = some (.string t.text)∧W.cell? ⟨w.heap.size,2,none⟩ = some (.int .i64 t.cols)∧W.cell? ⟨w.heap.size,3,none⟩ = some (.slice A t.kids.length cap)→w.heap.size < W.heap.size →
   Calls Tryz.prog 104 #[.pointer (some ⟨w.heap.size,0,none⟩),.slice Ap p.length cp] W (FindP W (rowS t p))):=fun W hW hc hz=>by
  obtain ⟨_,_,rs,hq,h1,h2,h3,h4⟩:=hv.below hW hW.size
  cases hq
  exact zG0 t p w.heap.size 0 A cap rs _ W ⟨by simpa using hc,hz,hok.2.2,h1,h2,h3,h4⟩ (hp.below hW hW.size)
 have C3:Hid (∀ t',rowS t p = some t'→zAu t'∧zAe t'≤1000000):=fun t' h=>by
  obtain ⟨h1,h2⟩:=zJ7 t p t' h hok ⟨_,hv⟩
  exact ⟨h1,by omega⟩
 have HR:Hid ((zAf t = false→zA3 t p i = (zAx,1))∧(zAf t = true→rowS t p = none→zA3 t p i = (zAx,8))∧(∀ x,zAf t = true→rowS t p = some x→(i < 0∨(x.kids.length:Int)≤i)→zA3 t p i = (zAx,2))∧(∀ x,zAf t = true→rowS t p = some x→¬ (i < 0∨(x.kids.length:Int)≤i)→zA3 t p i = (zD8 x.kids i.toNat,0))):=by
  refine ⟨fun h=>?_,fun h h1=>?_,fun x h h1 h2=>?_,fun x h h1 h2=>?_⟩
  ·unfold zA3 zAg;rw [if_pos h];simp
  ·rw [zEw] at h1
   unfold zA3 zAg
   cases hf:(zAm t p).2
   ·simp [h]
   ·rw [hf] at h1;simp at h1
  ·rw [zEw] at h1
   cases hf:(zAm t p).2
   ·rw [hf] at h1;simp at h1
   ·rw [hf] at h1
    simp at h1
    have e1:zAg t p = (x,0):=by unfold zAg;rw [if_neg (by simp [h]),if_neg (by rw [hf];simp),h1]
    unfold zA3
    rw [e1,if_neg (by simp),if_pos h2]
  ·rw [zEw] at h1
   cases hf:(zAm t p).2
   ·rw [hf] at h1;simp at h1
   ·rw [hf] at h1
    simp at h1
    have e1:zAg t p = (x,0):=by unfold zAg;rw [if_neg (by simp [h]),if_neg (by rw [hf];simp),h1]
    unfold zA3
    rw [e1,if_neg (by simp),if_neg h2]
 generalize zA3 t p i = RES at *
 generalize rowS t p = f at *
 generalize hbv:zAf t = bv at *
 clear hv hok hct hp hbv
 obtain ⟨W0,hW0⟩:∃ W0,(w.alloc (Obj.cells #[.int .i64 t.kind,.string t.text,.int .i64 t.cols,.slice A t.kids.length cap] 24)).alloc (Obj.cells #[.int .i64 0,.string ⟨#[]⟩,.int .i64 0,.slice none 0 0] 24) = W0:=⟨_,rfl⟩
 have HW0Z:Hid (W0.heap.size = w.heap.size + 1 + 1):=by show _ = _;rw [← hW0];simp
 have KB:Hid (∀ W,Below W0.heap.size W0 W→FB W w.heap.size (.int .i64 t.kind) (.string t.text) (.int .i64 t.cols) (.slice A t.kids.length cap)∧FB W (w.heap.size + 1) (.int .i64 0) (.string ⟨#[]⟩) (.int .i64 0) (.slice none 0 0)∧Below w.heap.size w W):=by
  intro W hW
  have hz:W0.heap.size = w.heap.size + 1 + 1:=HW0Z.out
  refine ⟨FB.below (B:=W0.heap.size) ?_ hW (by omega),FB.below (B:=W0.heap.size) ?_ hW (by omega),Below.trans ?_ (hW.mono (by omega))⟩
  ·rw [← hW0];exact (FB.new w _ _ _ _ _ rfl).below (blA _ _) (by simp)
  ·rw [← hW0];exact FB.new _ _ _ _ _ _ (by simp)
  ·rw [← hW0];exact zAp (blA _ _) _
 obtain ⟨⟨⟨m0,m1,m2,m3⟩,_⟩,⟨⟨c0,c1,c2,c3⟩,⟨f0,f1,f2,f3⟩⟩,hbw0⟩:=KB.out W0 (Below.refl _ _)
 have HBW0:=hid hbw0
 clear hbw0
 go_enter Tryz.func70,Tryz.ntmps70
 go_wp2_with fail
 refine (C1.out _ HBW0.out).mono ?_
 rintro e w1 ⟨rfl,hb1⟩
 clear m0 m1 m2 m3 c0 c1 c2 c3 f0 f1 f2 f3
 have HB1:=hid hb1
 obtain ⟨⟨⟨m0,m1,m2,m3⟩,_⟩,⟨⟨c0,c1,c2,c3⟩,⟨f0,f1,f2,f3⟩⟩,hbw1⟩:=KB.out w1 hb1
 have HBW1:=hid hbw1
 have HZ1:Hid (w.heap.size < w1.heap.size):=by show _ < _;have:=hb1.size;have:=HW0Z.out;omega
 clear hb1 hbw1
 cases bv
 ·have HC:=hid (And.intro c0 (And.intro c1 (And.intro c2 c3)))
  go_wp2_with fail
  generalize hW:(((w1.setCell _ (.int .i64 0)).setCell _ (.string ⟨#[]⟩)).setCell _ (.int .i64 0)).setCell _ (.slice none 0 0) = W
  obtain ⟨⟨r0,r1,r2,r3⟩,rz,rb,ro,_⟩:=four HC.out.1 HC.out.2.1 HC.out.2.2.1 HC.out.2.2.2 _ _ _ _ hW.symm
  have HB':=hid (rb w.heap.size w (by omega) HBW1.out)
  clear hW ro rb
  refine bodyPost_ret (v:=.tuple #[.agg #[.int .i64 0,.string ⟨#[]⟩,.int .i64 0,.slice none 0 0],.int .i64 1]) (by simp [results,Tryz.results70,go_sem,r0,r1,r2,r3]) rfl ?_
  rw [HR.out.1 (by trivial)]
  exact ⟨_,rfl,zAa.nil_ 0 (Nat.zero_le _) none,HB'.out⟩
 go_wp2_with fail
 refine (C2.out _ HBW1.out ⟨m0,m1,m2,m3⟩ HZ1.out).mono ?_
 rintro e w2 ⟨⟨n2,hw2⟩,hcase⟩
 have hb2:Below w1.heap.size w1 w2:=by rw [hw2];exact zBw (Below.refl _ _) n2
 have HB2:=hid (HB1.out.trans (hb2.mono HB1.out.size))
 clear m0 m1 m2 m3 c0 c1 c2 c3 f0 f1 f2 f3
 obtain ⟨⟨⟨m0,m1,m2,m3⟩,_⟩,⟨⟨c0,c1,c2,c3⟩,⟨f0,f1,f2,f3⟩⟩,hbw2⟩:=KB.out w2 HB2.out
 have HBW2:=hid hbw2
 clear hbw2
 rcases hcase with ⟨hno,q,rfl⟩ | ⟨t',g,o,A',cap',rs,hso,rfl,⟨d0,d1,d2,d3⟩,hgl,htx,hk1,hk2,hk3,hk4⟩
 ·have HE:=hid (HR.out.2.1 (by trivial) hno)
  clear hb2 hw2 hno
  have HC:=hid (And.intro c0 (And.intro c1 (And.intro c2 c3)))
  go_wp2_with fail
  generalize hW:(((w2.setCell _ (.int .i64 0)).setCell _ (.string ⟨#[]⟩)).setCell _ (.int .i64 0)).setCell _ (.slice none 0 0) = W
  obtain ⟨⟨r0,r1,r2,r3⟩,rz,rb,ro,_⟩:=four HC.out.1 HC.out.2.1 HC.out.2.2.1 HC.out.2.2.2 _ _ _ _ hW.symm
  have HB':=hid (rb w.heap.size w (by omega) HBW2.out)
  clear hW ro rb
  refine bodyPost_ret (v:=.tuple #[.agg #[.int .i64 0,.string ⟨#[]⟩,.int .i64 0,.slice none 0 0],.int .i64 8]) (by simp [results,Tryz.results70,go_sem,r0,r1,r2,r3]) rfl ?_
  rw [HE.out]
  exact ⟨_,rfl,zAa.nil_ 0 (Nat.zero_le _) none,HB'.out⟩
 have hv2:zAa zAb w2 (Lt w2.heap.size) t'.kids (.slice A' t'.kids.length cap'):=zAa.below (B:=w1.heap.size) ⟨A',cap',rs,rfl,hk1,hk2,hk3,hk4⟩ hb2 hb2.size
 replace d3:w2.cell? ⟨g,o + 3,none⟩ = some (.slice A' t'.kids.length cap'):=by rw [hw2];exact d3
 have HE2:=hid (HR.out.2.2.1 t' (by trivial) hso)
 have HE3:=hid (HR.out.2.2.2 t' (by trivial) hso)
 have HT:=hid (C3.out t' hso)
 have hlen:=hk2
 unfold maxLen at hlen
 have hln:(t'.kids.length:Int)≤9223372036854775807:=by omega
 clear d0 d1 d2 hb2 hw2 hgl htx hk1 hk2 hk3 hk4 hlen hso
 rcases Int.lt_or_le i 0 with h1 | h1
 ·have i1:decide (i < 0) = true:=by simpa using h1
  have HE:=hid (HE2.out (.inl h1))
  clear hv2
  have HC:=hid (And.intro c0 (And.intro c1 (And.intro c2 c3)))
  go_wp2_with fail
  generalize hW:(((w2.setCell _ (.int .i64 0)).setCell _ (.string ⟨#[]⟩)).setCell _ (.int .i64 0)).setCell _ (.slice none 0 0) = W
  obtain ⟨⟨r0,r1,r2,r3⟩,rz,rb,ro,_⟩:=four HC.out.1 HC.out.2.1 HC.out.2.2.1 HC.out.2.2.2 _ _ _ _ hW.symm
  have HB':=hid (rb w.heap.size w (by omega) HBW2.out)
  clear hW ro rb
  refine bodyPost_ret (v:=.tuple #[.agg #[.int .i64 0,.string ⟨#[]⟩,.int .i64 0,.slice none 0 0],.int .i64 2]) (by simp [results,Tryz.results70,go_sem,r0,r1,r2,r3]) rfl ?_
  rw [HE.out]
  exact ⟨_,rfl,zAa.nil_ 0 (Nat.zero_le _) none,HB'.out⟩
 have i1:decide (i < 0) = false:=by simpa using h1
 rcases Int.lt_or_le i t'.kids.length with h2 | h2
 rotate_left
 ·have i2:decide ((t'.kids.length:Int)≤i) = true:=by simpa using h2
  have HE:=hid (HE2.out (.inr h2))
  clear hv2
  have HC:=hid (And.intro c0 (And.intro c1 (And.intro c2 c3)))
  go_wp2_with fail
  generalize hW:(((w2.setCell _ (.int .i64 0)).setCell _ (.string ⟨#[]⟩)).setCell _ (.int .i64 0)).setCell _ (.slice none 0 0) = W
  obtain ⟨⟨r0,r1,r2,r3⟩,rz,rb,ro,_⟩:=four HC.out.1 HC.out.2.1 HC.out.2.2.1 HC.out.2.2.2 _ _ _ _ hW.symm
  have HB':=hid (rb w.heap.size w (by omega) HBW2.out)
  clear hW ro rb
  refine bodyPost_ret (v:=.tuple #[.agg #[.int .i64 0,.string ⟨#[]⟩,.int .i64 0,.slice none 0 0],.int .i64 2]) (by simp [results,Tryz.results70,go_sem,r0,r1,r2,r3]) rfl ?_
  rw [HE.out]
  exact ⟨_,rfl,zAa.nil_ 0 (Nat.zero_le _) none,HB'.out⟩
 have i2:decide ((t'.kids.length:Int)≤i) = false:=by simpa using h2
 obtain ⟨k,rfl⟩:∃ k:Nat,i = k:=⟨i.toNat,by omega⟩
 have hk:k < t'.kids.length:=by omega
 have HE:Hid (RES = (t'.kids[k],0)):=by
  show _ = _
  rw [HE3.out (by omega),Int.toNat_natCast]
  show ((t'.kids.getD k zAx,(0:Int)):Tree × Int) = _
  rw [zM2 hk]
 obtain ⟨_,_,rs2,hq,_,_,hrd2,hls2⟩:=hv2
 cases hq
 obtain ⟨gi,oi,Ai,ci,rs3,rfl,hgi,q0,q1,q2,q3,e1,e2,e3,e4,e5,hrd3,hls3⟩:=zAy hrd2 hls2 hk
 have hki:zAa zAb w2 (Lt w2.heap.size) t'.kids[k].kids (.slice Ai t'.kids[k].kids.length ci):=⟨_,_,rs3,rfl,e4,e5,hrd3,hls3⟩
 have hcc:zAe t'.kids[k]≤1000000:=by
  have h8:=zDg (t:=t') hk
  have h9:=HT.out.2
  omega
 have CD:=hid (zDq t'.kids[k] Ai ci w2 hki ⟨e1,e2,e3⟩ hcc)
 generalize t'.kids[k] = x at *
 obtain ⟨xk,xt,xc,xs⟩:=x
 simp only [Tree.kind,Tree.text,Tree.cols,Tree.kids] at CD q0 q1 q2 q3
 clear hrd2 hls2 hrd3 hls3 e1 e2 e3 e4 e5 hki hcc HE2 HE3 h1 h2
 have i3:(0:Int)≤(k:Int):=by omega
 have i4:(k:Int) < (t'.kids.length:Int):=by omega
 go_wp2_with fail
 refine CD.out.mono ?_
 rintro e w3 ⟨v3,rfl,hr3,hb3⟩
 simp only [Tree.kind,Tree.text,Tree.cols,Tree.kids] at hr3 ⊢
 obtain ⟨A3,c3n,rfl⟩:=hr3.form
 have HR3:=hid hr3
 have HB3:=hid (HB2.out.trans (hb3.mono HB2.out.size))
 clear m0 m1 m2 m3 c0 c1 c2 c3 f0 f1 f2 f3
 obtain ⟨⟨⟨m0,m1,m2,m3⟩,_⟩,⟨⟨c0,c1,c2,c3⟩,⟨f0,f1,f2,f3⟩⟩,hbw3⟩:=KB.out w3 HB3.out
 have HBW3:=hid hbw3
 have HZ2:Hid (W0.heap.size≤w2.heap.size):=HB2.out.size
 have HC:=hid (And.intro c0 (And.intro c1 (And.intro c2 c3)))
 clear hb3 hbw3 hr3 q0 q1 q2 q3 d3
 go_wp2_with fail
 generalize hW:(((w3.setCell _ (.int .i64 xk)).setCell _ (.string xt)).setCell _ (.int .i64 xc)).setCell _ (.slice A3 xs.length c3n) = W
 obtain ⟨⟨r0,r1,r2,r3⟩,rz,rb,ro,_⟩:=four HC.out.1 HC.out.2.1 HC.out.2.2.1 HC.out.2.2.2 _ _ _ _ hW.symm
 have HB':=hid (rb w.heap.size w (by omega) HBW3.out)
 have HRO:Hid (∀ q:Addr,q.block≠w.heap.size + 1→W.cell? q = w3.cell? q):=ro
 clear hW ro rb
 refine bodyPost_ret (v:=.tuple #[.agg #[.int .i64 xk,.string xt,.int .i64 xc,.slice A3 xs.length c3n],.int .i64 0]) (by simp [results,Tryz.results70,go_sem,r0,r1,r2,r3]) rfl ?_
 rw [HE.out]
 exact ⟨_,rfl,HR3.out.keep (fun q hq=>HRO.out q (by have:=hq.1;have:=HZ2.out;have:=HW0Z.out;omega)) (fun q hq=>⟨by have:=hq.1;have:=HZ2.out;have:=HW0Z.out;omega,by rw [rz];exact hq.2⟩),HB'.out⟩
theorem zGc (t:Tree) (i k:Int) (p:List Int) (hi:0≤i∧i.toNat < t.kids.length) (hk:0≤k∧k.toNat < (kidS t i).kids.length):zAm t (i :: k :: p) = zAm (kidS (kidS t i) k) p:=by
 rw [zAm,dif_pos hi]
 have e:kidS t i = t.kids[i.toNat]:=zDj hi.2
 rw [e] at hk ⊢
 rw [dif_pos hk,zDj hk.2]
theorem zIe : (p : List Int) → (t : Tree) → (q : List Int) → (zAm t p).2 = true → zAm t (p ++ q) = zAm (zAm t p).1 q
  | [], t, q, _ => rfl
  | [_], t, q, h => by simp [zAm] at h
  | i :: k :: p, t, q, h => by
    obtain ⟨hi, hk, he⟩ := zCs t i k p h
    rw [he] at h ⊢
    show zAm t (i :: k :: (p ++ q)) = _
    rw [zGc t i k (p ++ q) hi hk]
    exact zIe p _ q h
theorem zNy : (p : List Int) → (t : Tree) → (o : Int) → zAs t (p ++ [o]) = true → (zAm t p).2 = true
  | [], t, o, _ => rfl
  | [i], t, o, h => by have := zF3 _ _ h; simp at this
  | i :: k :: p, t, o, h => by
    have h' : zAs t (i :: k :: (p ++ [o])) = true := h
    rw [zEn] at h'
    simp only [Bool.and_eq_true, decide_eq_true_eq] at h'
    rw [zGc t i k p h'.1 h'.2.1]
    exact zNy p _ o h'.2.2
theorem zIc : (p : List Int) → (t : Tree) → (q : List Int) → p.length % 2 = 0 → (zAm t (p ++ q)).2 = true → (zAm t p).2 = true
  | [], t, q, _, _ => rfl
  | [_], t, q, h, _ => by simp at h
  | i :: k :: p, t, q, h, hf => by
    have hf' : (zAm t (i :: k :: (p ++ q))).2 = true := hf
    obtain ⟨hi, hk, he⟩ := zCs t i k (p ++ q) hf'
    rw [he] at hf'
    rw [zGc t i k p hi hk]
    exact zIc p _ q (by simp at h; omega) hf'
theorem zF2 {t:Tree} {p:List Int} {o:Int} (h:zAs t (p ++ [o]) = true):(zAm t p).2 = true∧0≤o∧o≤(zAm t p).1.kids.length:=by
 have h1:=zNy p t o h
 rw [zJd p t [o] h1,zLe] at h
 exact ⟨h1,by simpa using h⟩
theorem two_last {p:List Int} (h:2≤p.length):∃ q i s,p = q ++ [i,s]:=by
 obtain ⟨p1,s,rfl⟩:∃ p1 s,p = p1 ++ [s]:=⟨p.dropLast,p.getLast (by intro e;subst e;simp at h),(List.dropLast_concat_getLast _).symm⟩
 simp at h
 obtain ⟨q,i,rfl⟩:∃ q i,p1 = q ++ [i]:=⟨p1.dropLast,p1.getLast (by intro e;subst e;simp at h),(List.dropLast_concat_getLast _).symm⟩
 exact ⟨q,i,s,by simp⟩
theorem zFb {t:Tree} {q:List Int} {i s o:Int} (h:zAs t (q ++ [i,s] ++ [o]) = true) :
  (zAm t q).2 = true∧(0≤i∧i.toNat < (zAm t q).1.kids.length)∧(0≤s∧s.toNat < (kidS (zAm t q).1 i).kids.length)∧(zAm t (q ++ [i,s])).1 = kidS (kidS (zAm t q).1 i) s∧0≤o∧o≤(kidS (kidS (zAm t q).1 i) s).kids.length:=by
 obtain ⟨h1,h2,h3⟩:=zF2 h
 have he:q.length % 2 = 0:=by have:=zId _ _ h1;simp at this;omega
 have h4:=zIc q t [i,s] he h1
 have h5:=zIe q t [i,s] h4
 rw [h5] at h1
 obtain ⟨hi,hk,h6⟩:=zCs _ i s [] h1
 have h7:(zAm t (q ++ [i,s])).1 = kidS (kidS (zAm t q).1 i) s:=by rw [h5,h6];rfl
 rw [h7] at h3
 exact ⟨h4,hi,hk,h7,h2,h3⟩
theorem zDn {t:Tree} {p:List Int} (hv:zAf t = true) (h:(zAm t p).2 = true):zAg t p = ((zAm t p).1,0):=by
 unfold zAg;rw [if_neg (by simp [hv]),if_neg (by simp [h])]
theorem ext_bd (x:Int) (a:List Int):x≤extS (x :: a)∧extS (x :: a)≤x + 1∧(a = []→extS (x :: a) = x):=by
 unfold extS
 cases a <;> simp <;> omega
theorem zQk {t : Tree} {x : Int} {a : List Int} (h : zAs t (x :: a) = true) : 0 ≤ x ∧ x ≤ extS (x :: a) ∧ extS (x :: a) ≤ t.kids.length := by
  obtain ⟨b1, b2, b3⟩ := ext_bd x a
  match a, h with
  | [], h => rw [zLe] at h; have h := of_decide_eq_true h; rw [b3 rfl]; exact ⟨h.1, Int.le_refl _, h.2⟩
  | k :: q, h =>
    rw [zEn] at h
    simp only [Bool.and_eq_true, decide_eq_true_eq] at h
    refine ⟨h.1.1, b1, ?_⟩
    have := h.1.2
    omega
theorem bt_ok : (a : List Int) → (t : Tree) → (b : List Int) → zAs t a = true → zAs t b = true →
    (zAm t (btS a b).1).2 = true ∧ 0 ≤ (btS a b).2.1 ∧ (btS a b).2.1 ≤ (btS a b).2.2 ∧ (btS a b).2.2 ≤ (zAm t (btS a b).1).1.kids.length
  | [], t, b, ha, hb => by simp [zAs] at ha
  | [x], t, b, ha, hb => bt_base [x] t b ha hb (by unfold comS; rfl)
  | [x, y], t, b, ha, hb => by simp [zAs] at ha
  | i :: s :: x :: a, t, [], ha, hb => by simp [zAs] at hb
  | i :: s :: x :: a, t, [y], ha, hb => bt_base _ t [y] ha hb (by unfold comS; rfl)
  | i :: s :: x :: a, t, [y, z], ha, hb => by simp [zAs] at hb
  | i :: s :: x :: a, t, j :: k :: y :: b, ha, hb => by
    by_cases he : i = j ∧ s = k
    · obtain ⟨rfl, rfl⟩ := he
      have e1 : btS (i :: s :: x :: a) (i :: s :: y :: b) = (i :: s :: (btS (x :: a) (y :: b)).1, (btS (x :: a) (y :: b)).2) := by
        unfold btS
        rw [comS, if_pos ⟨rfl, rfl⟩]
        rfl
      rw [zEn] at ha hb
      simp only [Bool.and_eq_true, decide_eq_true_eq] at ha hb
      rw [e1, zGc t i s _ ha.1 ha.2.1]
      exact bt_ok (x :: a) _ (y :: b) ha.2.2 hb.2.2
    · exact bt_base _ t _ ha hb (by rw [comS, if_neg he])
where
  bt_base (a : List Int) (t : Tree) (b : List Int) (ha : zAs t a = true) (hb : zAs t b = true) (h : comS a b = 0) :
      (zAm t (btS a b).1).2 = true ∧ 0 ≤ (btS a b).2.1 ∧ (btS a b).2.1 ≤ (btS a b).2.2 ∧ (btS a b).2.2 ≤ (zAm t (btS a b).1).1.kids.length := by
    unfold btS
    rw [h]
    match a, b, ha, hb with
    | [], _, ha, _ => simp [zAs] at ha
    | _ :: _, [], _, hb => simp [zAs] at hb
    | x :: a, y :: b, ha, hb =>
      have h1 := zQk ha
      have h2 := zQk hb
      simp only [List.take_zero, List.drop_zero, List.getD_cons_zero, zAm]
      refine ⟨trivial, by omega, by omega, by omega⟩
theorem zMv {t:Tree} {p m:List Int} (h:(ofS t p m).2 = 0):zAf t = true∧zAs t p = true∧(m.length = 0∨zAs t m = true) ∧
  (zAm t (ofS t p m).1.1).2 = true∧0≤(ofS t p m).1.2.1∧(ofS t p m).1.2.1≤(ofS t p m).1.2.2∧(ofS t p m).1.2.2≤(zAm t (ofS t p m).1.1).1.kids.length:=by
 unfold ofS at h ⊢
 by_cases hm:m.length = 0
 ·rw [if_pos hm] at h ⊢
  unfold betV at h ⊢
  split at h
  ·simp at h
  ·rename_i h1
   rw [if_neg h1]
   split at h
   ·simp at h
   ·rename_i h2
    rw [if_neg h2]
    have h3:zAs t p = true:=by simpa using h2
    exact ⟨by simpa using h1,h3,.inl hm,bt_ok p t p h3 h3⟩
 ·rw [if_neg hm] at h ⊢
  unfold betV at h ⊢
  split at h
  ·simp at h
  ·rename_i h1
   rw [if_neg h1]
   split at h
   ·simp at h
   ·rename_i h2
    rw [if_neg h2]
    have h3:zAs t p = true∧zAs t m = true:=by simpa using h2
    exact ⟨by simpa using h1,h3.1,.inr h3.2,bt_ok p t m h3.1 h3.2⟩
theorem zN4 {t:Tree} {p m:List Int} (h:(ofS t p m).2 = 0):(zCd t (ofS t p m).1.1 (ofS t p m).1.2.1 (ofS t p m).1.2.2).2 = 0∧((zCd t (ofS t p m).1.1 (ofS t p m).1.2.1 (ofS t p m).1.2.2).1.length:Int) = (ofS t p m).1.2.2 - (ofS t p m).1.2.1:=by
 obtain ⟨hv,_,_,h1,h2,h3,h4⟩:=zMv h
 unfold zCd
 rw [zDn hv h1,if_neg (by simp),if_neg (by simp only;omega)]
 simp
 omega
def zD2 (t:Tree) (p m:List Int) (back:Bool):RecD × Int :=
 let row:=(zAg t p.dropLast).1.kids
 let i:=if back then p.getLastD 0 - 1 else p.getLastD 0
 if 0≤i∧i < row.length then
  (if zCf (zD8 row i.toNat).kids 0 (-1) = false then zI2 t p m [zBs p.dropLast i [zD8 row i.toNat]] (p.dropLast ++ [i]) else zEj t p m back)
 else match aroS t p with
  | some x=>if zCf x.item.kids 0 x.own = false then zI2 t p m [unwS x] (x.row ++ [if back then x.at_ else x.at_ + (unwS x).n]) else zEj t p m back
  | none=>zEj t p m back
theorem zJs {t:Tree} {p m:List Int} {back:Bool} (h1:(ofS t p m).2 = 0) (h2:¬ (ofS t p m).1.2.1 < (ofS t p m).1.2.2):zD3 t p m back = zD2 t p m back:=by
 unfold zD3;rw [if_neg (by simp [h1]),if_neg h2];rfl
theorem zN8 : (q : List Int) → (o : Int) → q.length % 2 = 0 → comS (q ++ [o]) (q ++ [o]) = q.length
  | [], o, _ => rfl
  | [_], o, h => by simp at h
  | i :: s :: q, o, h => by
    have ih := zN8 q o (by simp at h; omega)
    cases q with
    | nil => simp [comS]
    | cons x q =>
      show comS (i :: s :: x :: (q ++ [o])) (i :: s :: x :: (q ++ [o])) = _
      rw [comS, if_pos ⟨rfl, rfl⟩]
      have ih' : comS (x :: (q ++ [o])) (x :: (q ++ [o])) = (x :: q).length := ih
      rw [ih']; rfl
theorem of_self {t:Tree} {q:List Int} {o:Int} (hv:zAf t = true) (hp:zAs t (q ++ [o]) = true):ofS t (q ++ [o]) [] = ((q,o,o),0):=by
 have he:q.length % 2 = 0:=by have:=zF3 _ _ hp;simp at this;omega
 unfold ofS btS
 rw [if_pos (by simp),hv,hp,zN8 q o he]
 have g1:(q ++ [o]).getD q.length 0 = o:=by rw [List.getD_eq_getElem?_getD,List.getElem?_append_right (Nat.le_refl _)];simp
 rw [g1,List.drop_left,List.take_left']
 ·simp [betV,extS]
 ·rfl
theorem aro_of {t:Tree} {q2:List Int} {i s o:Int} (hv:zAf t = true) (hp:zAs t (q2 ++ [i,s] ++ [o]) = true):aroS t (q2 ++ [i,s] ++ [o]) = some ⟨q2,i,s,kidS (zAm t q2).1 i⟩:=by
 obtain ⟨h4,hi,hk,h7,_⟩:=zFb hp
 have e1:(zA3 t q2 i).1 = kidS (zAm t q2).1 i:=by
  unfold zA3
  rw [zDn hv h4,if_neg (by simp),if_neg (by simp only;omega)]
  simp only [zD8,kidS]
 unfold aroS
 rw [if_neg (by simp)]
 simp only [List.append_assoc,List.cons_append,List.nil_append,List.length_append,List.length_cons,List.length_nil,Nat.zero_add,Nat.reduceAdd,Nat.add_sub_cancel,List.take_left']
 have g1:(q2 ++ [i,s,o]).getD q2.length 0 = i:=by rw [List.getD_eq_getElem?_getD,List.getElem?_append_right (Nat.le_refl _)];simp
 have g2:(q2 ++ [i,s,o]).getD (q2.length + 3 - 2) 0 = s:=by rw [List.getD_eq_getElem?_getD,List.getElem?_append_right (by omega),show q2.length + 3 - 2 - q2.length = 1 by omega];rfl
 rw [g1,g2,e1]
end Go.Proofs.YtbjcioknfjofkaaGreat
