/- Texts put together. -/
import Derived.Test.YtbjcioknfjofkaaGreatQ6da73ac3b1
import Derived.Test.YtbjcioknfjofkaaGreatQ780eb66c79
import Derived.Shelf.Abstract
import Derived.Shelf.RegionOpen
import Derived.OwnWalkIn
import Derived.TacticsInMore
import Derived.LoopNIn
import Derived.LoopIn
set_option linter.unusedVariables false
set_option linter.unusedSimpArgs false
set_option maxRecDepth 100000
namespace Go.Proofs.YtbjcioknfjofkaaGreat
open Go Go.RowKit Go.Shelf
attribute [local go_sem] Oper.semAt_some
abbrev PosV:=List Int × Value
def PRd (n1:Nat) (x:PosV) (W:World):Prop:=zAh W (fun k=>n1≤k∧k < W.heap.size) x.1 x.2
def PRdV (V:World→Nat→Prop) (n1:Nat) (x:PosV) (W:World):Prop:=zAh W (fun k=>n1≤k∧k < W.heap.size∧¬ V W k) x.1 x.2
def OkV (V:World→Nat→Prop) (W:World) (k:Nat):Prop:=k < W.heap.size∧¬ V W k
theorem But.ok {V:World→Nat→Prop} {W W':World} (h:But V W W'):∀ k,OkV V W k→OkV V W' k:=fun k hk=>⟨Nat.lt_of_lt_of_le hk.1 h.size,fun e=>hk.2 (h.less k hk.1 e)⟩
theorem zAa.but {α:Type} {E:Enc α} {V:World→Nat→Prop} {W W':World} {xs:List α} {v:Value} (h:zAa E W (OkV V W) xs v) (hb:But V W W'):zAa E W' (OkV V W') xs v:=h.keep hb.same hb.ok
theorem zAa.wide {α:Type} {E:Enc α} {W:World} {S S':Nat→Prop} {xs:List α} {v:Value} (h:zAa E W S xs v) (hS:∀ k,S k→S' k):zAa E W S' xs v:=h.keep (zCu _ _) hS
def zNo (w:World) (xs:List Int) (e:Ending) (w':World):Prop:=∃ v,e = .returned v∧zAh w' (fun k=>w.heap.size≤k∧k < w'.heap.size) xs v∧Below w.heap.size w w'
theorem zPo {W:World} {xs ys:List Int} {u v:Value} (hu:zAh W (Lt W.heap.size) xs u) (hv:zAh W (Lt W.heap.size) ys v) (g:Nat) (hg:g = W.heap.size) (e:TypeId) :
  zAa (zC0 intE) (W.alloc (.cells #[u,v] e)) (Lt (W.alloc (.cells #[u,v] e)).heap.size) [xs,ys] (.slice (some ⟨g,0,none⟩) 2 2):=by
 subst hg
 have hb:Below W.heap.size W (W.alloc (.cells #[u,v] e)):=zAl _ _
 refine ⟨_,_,[u,v],rfl,Nat.le_refl _,by simp [maxLen],fun _=>⟨W.heap.size,0,rfl,by unfold Lt;simp,fun j x hx=>?_⟩,[u],[v],rfl,⟨u,rfl,hu.below hb hb.size⟩,zAw.single (E:=zC0 intE) ⟨v,rfl,hv.below hb hb.size⟩⟩
 rw [Nat.zero_add,World.cell?_alloc_new]
 simpa using hx
theorem cat2 (W:World) (xs ys:List Int) (u:Value) (hu:zAh W (Lt W.heap.size) xs u) (hy:∀ y ∈ ys,In64 y) (cs:Array Value) (hcs:cs = (ys.map (Value.int .i64 ·)).toArray) (m:Nat) (hm:m = ys.length) (hy1:m≤100) (hlen:xs.length≤900000) (g:Nat) (hg:g = W.heap.size) (W':World)
  (hW:W' = (W.alloc (.cells cs 3)).alloc (.cells #[u,.slice (some ⟨g,0,none⟩) m m] 31)∨W' = ((W.alloc (.cells cs 3)).alloc (.cells #[u,.slice (some ⟨g,0,none⟩) m m] 31)).drew) (n:Nat) :
  CallsIn Fence.wide n Tryz.prog 73 #[.slice (some ⟨g + 1,0,none⟩) 2 2] W' (zNo W (xs ++ ys)):=by
 subst hcs hm hg
 refine callsIn_wide.2 ?_
 have hb1:Below W.heap.size W (W.alloc (.cells (ys.map (Value.int .i64 ·)).toArray 3)):=zAl _ _
 have hl:∀ S:Nat→Prop,S W.heap.size→zAh (W.alloc (.cells (ys.map (Value.int .i64 ·)).toArray 3)) S ys (.slice (some ⟨W.heap.size,0,none⟩) ys.length ys.length):=fun S hS=>zDk W ys hy hS _ ys.length rfl rfl (by simp [maxLen];omega) _ _ rfl
 have hr:=zPo (hu.below hb1 hb1.size) (hl (Lt (W.alloc (.cells (ys.map (Value.int .i64 ·)).toArray 3)).heap.size) (by unfold Lt;simp)) (W.heap.size + 1) (by simp) 31
 have hb2:Below W.heap.size W ((W.alloc (.cells (ys.map (Value.int .i64 ·)).toArray 3)).alloc (.cells #[u,.slice (some ⟨W.heap.size,0,none⟩) ys.length ys.length] 31)):=hb1.alloc hb1.size _
 have hf:[xs,ys].flatten = xs ++ ys:=by simp
 rcases hW with rfl | rfl
 ·refine (zGt _ _ _ hr (by rw [hf];simp;omega)).mono ?_
  rintro e w1 ⟨v1,rfl,ho,hb⟩
  rw [hf] at ho
  exact ⟨v1,rfl,ho.ints (fun k h1 h2=>⟨by simp at h1;omega,h2⟩),hb2.trans (hb.mono hb2.size)⟩
 ·refine (zGt _ _ _ (zEl hr) (by rw [hf];simp;omega)).mono ?_
  rintro e w1 ⟨v1,rfl,ho,hb⟩
  rw [hf] at ho
  refine ⟨v1,rfl,ho.ints (fun k h1 h2=>⟨?_,h2⟩),hb2.drew.trans (hb.mono hb2.drew.size)⟩
  have:=hb2.drew.size;omega
def zFg (TOT L:List (List Int)) (V:World→Nat→Prop) (J Jx:List PosV→World→Prop) (pre:List PosV) (W:World) (e:Ending) (W':World):Prop :=
 (e = .returned (.bool true)∧∃ xs:List PosV,xs.map Prod.fst = L∧J (pre ++ xs) W'∧But V W W')∨(e = .returned (.bool false)∧∃ q:List PosV,(pre ++ q).map Prod.fst <+: TOT∧Jx (pre ++ q) W')
theorem cut_left {pre xs:List PosV} {L R T:List (List Int)} (h1:pre.map Prod.fst ++ (L ++ R) = T) (h2:(pre ++ xs).map Prod.fst ++ R = T):xs.map Prod.fst = L:=by
 rw [← h1,List.map_append,List.append_assoc] at h2
 exact List.append_cancel_right (List.append_cancel_left h2)
set_option maxHeartbeats 4000000 in
theorem zPd (l n1 : Nat) (V : World → Nat → Prop) (TOT : List (List Int)) (J Jx : List PosV → World → Prop) (hV : ∀ s W, J s W → Gdv V W) (hJ : Grows J) (hJx : Grows Jx)
    (hY : ∀ pre x W1, J pre W1 → PRdV V n1 x W1 → (pre ++ [x]).map Prod.fst <+: TOT → YieldAt Fence.wide 0 Tryz.prog l #[x.2] W1 fun e W' =>
      (e = .returned (.bool true) ∧ J (pre ++ [x]) W' ∧ But V W1 W') ∨ (e = .returned (.bool false) ∧ Jx (pre ++ [x]) W')) (t : Tree) :
    ∀ (path : List Int) (g o : Nat) (A Ap : Option Addr) (cap cp : Nat) (pre : List PosV) (REST : List (List Int)) (w : World), w.cell? ⟨g, o + 3, none⟩ = some (.slice A t.kids.length cap) → OkV V w g →
      zAa zAb w (OkV V w) t.kids (.slice A t.kids.length cap) → zAh w (OkV V w) path (.slice Ap path.length cp) → path.length + 2 * zAe t ≤ 800000 → n1 ≤ w.heap.size → J pre w → pre.map Prod.fst ++ (allS path t ++ REST) = TOT →
      CallsIn Fence.wide 0 Tryz.prog 157 #[.pointer (some ⟨g, o, none⟩), .slice Ap path.length cp, .func (.yield l) #[] #[]] w (zFg TOT (allS path t) V J Jx pre w) := by
  induction t using Tree.ind' with
  | h t ih =>
  intro path g o A Ap cap cp pre REST w hc hg hv hp hcnt hn hj0 htot
  have HE : Hid (allS path t = zBu path 0 t.kids) := zKs path t
  have hkc := zAn t
  have HIH : Hid (∀ (j k : Nat) (hj : j < t.kids.length) (hk : k < t.kids[j].kids.length) (g o : Nat) (A1 A2 : Option Addr) (c1 c2 : Nat) (pre : List PosV) (REST : List (List Int)) (W : World), W.cell? ⟨g, o + 3, none⟩ = some (.slice A1 t.kids[j].kids[k].kids.length c1) → OkV V W g →
      zAa zAb W (OkV V W) t.kids[j].kids[k].kids (.slice A1 t.kids[j].kids[k].kids.length c1) → zAh W (OkV V W) (path ++ [(j : Int), (k : Int)]) (.slice A2 (path.length + 2) c2) → n1 ≤ W.heap.size → J pre W → pre.map Prod.fst ++ (allS (path ++ [(j : Int), (k : Int)]) t.kids[j].kids[k] ++ REST) = TOT →
      CallsIn Fence.wide 0 Tryz.prog 157 #[.pointer (some ⟨g, o, none⟩), .slice A2 (path.length + 2) c2, .func (.yield l) #[] #[]] W (zFg TOT (allS (path ++ [(j : Int), (k : Int)]) t.kids[j].kids[k]) V J Jx pre W)) := by
    intro j k hj hk g o A1 A2 c1 c2 pre REST W h1 h2 h3 h4 h5 h6 h7
    have hl : (path ++ [(j : Int), (k : Int)]).length = path.length + 2 := by simp
    have hc1 := zDv hj
    have hc2 := zDv hk
    rw [← hl] at h4 ⊢
    exact ih _ (List.getElem_mem hj) _ (List.getElem_mem hk) _ _ _ _ _ _ _ _ _ _ h1 h2 h3 h4 (by rw [hl]; omega) h5 h6 h7
  have HRES : Hid (∀ (xs : List PosV) W', (pre ++ xs).map Prod.fst ++ REST = TOT → J (pre ++ xs) W' → But V w W' → zFg TOT (allS path t) V J Jx pre w (.returned (.bool true)) W') := fun xs W' h1 h2 h3 => .inl ⟨rfl, xs, cut_left htot h1, h2, h3⟩
  have HNO : Hid (∀ (q : List PosV) W', (pre ++ q).map Prod.fst <+: TOT → Jx (pre ++ q) W' → zFg TOT (allS path t) V J Jx pre w (.returned (.bool false)) W') := fun q W' h1 h2 => .inr ⟨rfl, q, h1, h2⟩
  have H0 : Hid (pre.map Prod.fst ++ (zBu path 0 t.kids ++ REST) = TOT) := by rw [HE.out] at htot; exact htot
  generalize zFg TOT (allS path t) V J Jx pre w = POST at HRES HNO ⊢
  have hpl : path.length ≤ 800000 := by omega
  have htl : t.kids.length ≤ 800000 := by omega
  clear ih HE hcnt hkc htot
  generalize t.kids = ts at *
  have HV := hid hV
  have HP : Hid (∀ W, But V w W → zAh W (OkV V W) path (.slice Ap path.length cp)) := fun W h => hp.but h
  have HT : Hid (∀ W, But V w W → zAa zAb W (OkV V W) ts (.slice A ts.length cap)) := fun W h => hv.but h
  have KEEP0 : Hid (∀ W, But V w W → W.cell? ⟨g, o + 3, none⟩ = some (.slice A ts.length cap)) := fun W h => (h.cell (p := ⟨g, o + 3, none⟩) hg.1 hg.2).trans hc
  have HY := hid hY
  have HJ := hid hJ
  have HN := hid hn
  have HJ0 := hid hj0
  clear hc hg hv hp hV hY hJ hJx hj0 hn
  refine callsIn_of_wp Tryz.func157 rfl trivial ?_ rfl
  simp only [Tryz.ntmps157, List.size_toArray, List.length_cons, List.length_nil, Nat.reduceAdd, Nat.reduceSub, Array.replicate_succ, Array.replicate_zero, List.push_toArray, List.append_toArray, List.nil_append, List.cons_append]
  gi_wp2_with fail
  gi_loopw [7] (fun i wr => ∃ (j : Nat) (xs : List PosV), j ≤ ts.length ∧ i = .int .i64 j ∧ J (pre ++ xs) wr ∧ But V w wr ∧ (pre ++ xs).map Prod.fst ++ (zBu path j (ts.drop j) ++ REST) = TOT) (fun i _ => ts.length + 1 - (intOf i).toNat)
  case atStart => exact ⟨0, [], Nat.zero_le _, rfl, by rw [List.append_nil]; exact HJ0.out, But.refl _ _, by rw [List.append_nil]; exact H0.out⟩
  case round =>
    obtain ⟨j, xs, hj, rfl, hjr, hbr, hrest⟩ := hrel
    have HR := hid hrest
    have HBR := hid hbr
    have HJR := hid hjr
    have HNR : Hid (n1 ≤ wr.heap.size) := Nat.le_trans HN.out hbr.size
    have c0 := KEEP0.out wr hbr
    have HC1 : Hid (∀ n, CallsIn Fence.wide n Tryz.prog 73 #[.slice (some ⟨wr.heap.size + 1, 0, none⟩) 2 2] ((wr.alloc (.cells #[.int .i64 j] 3)).alloc (.cells #[.slice Ap path.length cp, .slice (some ⟨wr.heap.size, 0, none⟩) 1 1] 31)) (zNo wr (path ++ [(j : Int)]))) :=
      fun n => cat2 wr path [(j : Int)] _ ((HP.out wr hbr).wide (fun k h => h.1)) (by simp [In64]; omega) _ rfl 1 rfl (by omega) (by omega) _ rfl _ (.inl rfl) n
    clear hrest hbr hjr
    have HPF : Hid ((pre ++ xs ++ [((path ++ [(j : Int)], .bool true) : PosV)]).map Prod.fst <+: TOT) := by
      show _ <+: _
      rw [← HR.out]
      rcases Nat.lt_or_ge j ts.length with h | h
      · rw [List.drop_eq_getElem_cons h, zFr]; exact ⟨_, by simp; rfl⟩
      · rw [List.drop_of_length_le h, zBu]; exact ⟨_, by simp; rfl⟩
    have HYY : Hid (∀ v1 w1, zAh w1 (fun k => wr.heap.size ≤ k ∧ k < w1.heap.size) (path ++ [(j : Int)]) v1 → Below wr.heap.size wr w1 → YieldAt Fence.wide 0 Tryz.prog l #[v1] w1 fun e W' =>
        (e = .returned (.bool true) ∧ Hid (J (pre ++ (xs ++ [(path ++ [(j : Int)], v1)])) W') ∧ Hid (But V w W')) ∨ (e = .returned (.bool false) ∧ Hid (Jx (pre ++ (xs ++ [(path ++ [(j : Int)], v1)])) W'))) := by
      intro v1 w1 h1 h2
      have hh := HY.out (pre ++ xs) (path ++ [(j : Int)], v1) w1 (HJ.out _ _ _ HJR.out h2) (h1.wide fun k hk => ⟨Nat.le_trans HNR.out hk.1, hk.2, fun hv => by have := (HV.out _ _ HJR.out _ h2 k hv).2; have := hk.1; omega⟩) (by simpa using HPF.out)
      rw [List.append_assoc] at hh
      refine YieldAt.mono hh fun e W' h => h.imp (fun ⟨a, b, c⟩ => ⟨a, b, HBR.out.trans ((But.of_below h2 (HV.out _ _ HJR.out)).trans c)⟩) id
    have HPF2 : Hid (∀ v1, (pre ++ (xs ++ [((path ++ [(j : Int)], v1) : PosV)])).map Prod.fst <+: TOT) := fun v1 => by simpa using HPF.out
    clear HPF
    have ii : (0 : Int) ≤ (j : Int) := by omega
    rcases Nat.lt_or_ge j ts.length with hlt | hge
    · obtain ⟨ga, oa, A1, cap1, rfl, hga, ⟨_, _, _, e3⟩, _, hul, hkids⟩ := zKl (HT.out w (But.refl _ _)) hlt
      have HK1 : Hid (∀ W, But V w W → W.cell? ⟨g, o + 3, none⟩ = some (.slice (some ⟨ga, oa, none⟩) ts.length cap) ∧ W.cell? ⟨ga, oa + j * 4 + 3, none⟩ = some (.slice A1 ts[j].kids.length cap1)) := fun W h => ⟨KEEP0.out W h, (h.cell (p := ⟨ga, oa + j * 4 + 3, none⟩) hga.1 hga.2).trans e3⟩
      have HKD : Hid (∀ W, But V w W → zAa zAb W (OkV V W) ts[j].kids (.slice A1 ts[j].kids.length cap1)) := fun W h => hkids.but h
      have hul' : ts[j].kids.length ≤ 9223372036854775807 := by unfold maxLen at hul; omega
      have i1 : (j : Int) < (ts.length : Int) := by omega
      have d1 : ((j : Int) == (ts.length : Int)) = false := by simp; omega
      have HIT := hid (zH6 path hlt)
      have HYY2 : Hid (∀ v1 w1, zAh w1 (fun k => wr.heap.size ≤ k ∧ k < w1.heap.size) (path ++ [(j : Int)]) v1 → Below wr.heap.size wr w1 → YieldAt Fence.wide 0 Tryz.prog l #[v1] w1 fun e W' =>
        (e = .returned (.bool true) ∧ Hid (J (pre ++ (xs ++ [(path ++ [(j : Int)], v1)])) W') ∧ Hid (But V w W') ∧ W'.cell? ⟨g, o + 3, none⟩ = some (.slice (some ⟨ga, oa, none⟩) ts.length cap) ∧ W'.cell? ⟨ga, oa + j * 4 + 3, none⟩ = some (.slice A1 ts[j].kids.length cap1)) ∨ (e = .returned (.bool false) ∧ Hid (Jx (pre ++ (xs ++ [(path ++ [(j : Int)], v1)])) W'))) :=
        fun v1 w1 h1 h2 => YieldAt.mono (HYY.out v1 w1 h1 h2) fun e W' h => h.imp (fun ⟨a, b, c⟩ => ⟨a, b, c, HK1.out W' c.out⟩) id
      clear HYY
      have hgl : ga < w.heap.size := hga.1
      clear e3 hkids hga hul
      gi_wp2_with (first
        | (refine ⟨trivial, rfl, ?_⟩; gi_at_call 73; refine (HC1.out _).mono ?_; rintro e w1 ⟨v1, rfl, hr1, hb1⟩; obtain ⟨fn, tmps, assign, body, hy, hR⟩ := HYY2.out v1 w1 hr1 hb1; clear hr1 hb1)
        | ((try refine ⟨rfl, ?_⟩); refine hR.mono ?_; clear hR; rintro e W2 (⟨rfl, HJ2, HB2, c2, f3⟩ | ⟨rfl, HX2⟩)))
      · have HST : Hid ((pre ++ (xs ++ [((path ++ [(j : Int)], v1) : PosV)])).map Prod.fst ++ (zCi path j 0 (ts[j].kids.drop 0) ++ (zBu path (j + 1) (ts.drop (j + 1)) ++ REST)) = TOT) := by show _ = _; rw [← HR.out, HIT.out]; simp
        gi_loopw [45] (fun i W => ∃ (k : Nat) (ys : List PosV), k ≤ ts[j].kids.length ∧ i = .int .i64 k ∧ J (pre ++ ys) W ∧ But V w W ∧ (pre ++ ys).map Prod.fst ++ (zCi path j k (ts[j].kids.drop k) ++ (zBu path (j + 1) (ts.drop (j + 1)) ++ REST)) = TOT) (fun i _ => ts[j].kids.length - (intOf i).toNat)
        case atStart => exact ⟨0, _, Nat.zero_le _, rfl, HJ2.out, HB2.out, HST.out⟩
        case round =>
          clear HR HBR HJR HNR HC1 HYY2 HPF2 HJ2 HB2 c2 f3 HST c0
          obtain ⟨k, ys, hk, rfl, hjr2, hbr2, hrest2⟩ := hrel
          have HR := hid hrest2
          have HBR := hid hbr2
          have HJR := hid hjr2
          have HNR : Hid (n1 ≤ wr.heap.size) := Nat.le_trans HN.out hbr2.size
          obtain ⟨c2, f3⟩ := HK1.out wr hbr2
          rcases Nat.lt_or_ge k ts[j].kids.length with hlt2 | hge2
          · have HSD := hid (zHq path j hlt2)
            obtain ⟨g1, o1, A2, cap2, rfl, hg1, ⟨_, _, _, e3⟩, _, _, hkids2⟩ := zKl (HKD.out w (But.refl _ _)) hlt2
            have i2 : (k : Int) < (ts[j].kids.length : Int) := by omega
            have i3 : (0 : Int) ≤ (k : Int) := by omega
            have HVI : Hid (∀ w1 v1, Below wr.heap.size wr w1 → zAh w1 (fun i => wr.heap.size ≤ i ∧ i < w1.heap.size) (path ++ [(j : Int), (k : Int)]) v1 → ∃ A3 c3, v1 = .slice A3 (path.length + 2) c3 ∧
                Hid (CallsIn Fence.wide 0 Tryz.prog 157 #[.pointer (some ⟨g1, o1 + k * 4, none⟩), .slice A3 (path.length + 2) c3, .func (.yield l) #[] #[]] w1 fun e W' =>
                  ∃ b : Bool, e = .returned (.bool b) ∧ Hid ((b = true ∧ ∃ zs : List PosV, J (pre ++ (ys ++ zs)) W' ∧ But V w W' ∧ (pre ++ (ys ++ zs)).map Prod.fst ++ (zCi path j (k + 1) (ts[j].kids.drop (k + 1)) ++ (zBu path (j + 1) (ts.drop (j + 1)) ++ REST)) = TOT) ∨ (b = false ∧ ∃ zs : List PosV, (pre ++ (ys ++ zs)).map Prod.fst <+: TOT ∧ Jx (pre ++ (ys ++ zs)) W')))) := by
              intro w1 v1 hb1 hr1
              obtain ⟨A3, c3, rfl⟩ := hr1.form
              have hl : (path ++ [(j : Int), (k : Int)]).length = path.length + 2 := by simp
              rw [hl] at hr1 ⊢
              have hbw : But V w w1 := HBR.out.trans (But.of_below hb1 (HV.out _ _ HJR.out))
              have hR := HR.out
              rw [HSD.out, List.append_assoc] at hR
              refine ⟨A3, c3, rfl, (HIH.out j k hlt hlt2 g1 (o1 + k * 4) A2 A3 cap2 c3 (pre ++ ys) _ w1 ((hbw.cell (p := ⟨g1, o1 + k * 4 + 3, none⟩) hg1.1 hg1.2).trans e3) (hbw.ok _ hg1) (hkids2.but hbw) (hr1.wide fun i hi => ⟨hi.2, fun hv => ?_⟩) (Nat.le_trans HNR.out hb1.size) (HJ.out _ _ _ HJR.out hb1) hR).mono ?_⟩
              · have := (HV.out _ _ HJR.out _ hb1 i hv).2; have := hi.1; omega
              · rintro e W' (⟨rfl, zs, hz, hj, hb⟩ | ⟨rfl, zs, hz, hj⟩)
                · refine ⟨true, rfl, .inl ⟨rfl, zs, by rw [← List.append_assoc]; exact hj, hbw.trans hb, ?_⟩⟩
                  rw [← hR, ← List.append_assoc pre, List.map_append, hz]; simp
                · exact ⟨false, rfl, .inr ⟨rfl, zs, by rw [← List.append_assoc]; exact hz, by rw [← List.append_assoc]; exact hj⟩⟩
            have HC2 : Hid (∀ n W', (W' = (wr.alloc (.cells #[.int .i64 j, .int .i64 k] 3)).alloc (.cells #[.slice Ap path.length cp, .slice (some ⟨wr.heap.size, 0, none⟩) 2 2] 31) ∨ W' = ((wr.alloc (.cells #[.int .i64 j, .int .i64 k] 3)).alloc (.cells #[.slice Ap path.length cp, .slice (some ⟨wr.heap.size, 0, none⟩) 2 2] 31)).drew) → CallsIn Fence.wide n Tryz.prog 73 #[.slice (some ⟨wr.heap.size + 1, 0, none⟩) 2 2] W' (zNo wr (path ++ [(j : Int), (k : Int)]))) :=
              fun n W' hW => cat2 wr path [(j : Int), (k : Int)] _ ((HP.out wr hbr2).wide (fun k h => h.1)) (by simp [In64]; omega) _ rfl 2 rfl (by omega) (by omega) _ rfl W' hW n
            clear hkids2 e3 hg1 hrest2 hbr2 hjr2
            have hgw : ga < wr.heap.size := by have := HBR.out.size; have := hgl; omega
            gi_wp2_with fail
            gi_region_with (first
              | (refine ⟨trivial, rfl, ?_⟩; gi_at_call 73; refine (HC2.out _ _ (by first | exact .inl rfl | exact .inr rfl)).mono ?_; rintro e w1 ⟨v1, rfl, hr1, hb1⟩; obtain ⟨A3, c3, rfl, HVV⟩ := HVI.out w1 v1 hb1 hr1; obtain ⟨c5, f5⟩ := HK1.out w1 (HBR.out.trans (But.of_below hb1 (HV.out _ _ HJR.out))); clear hr1 hb1)
              | (refine ⟨trivial, rfl, ?_⟩; gi_at_call 157; refine HVV.out.mono ?_; clear HVV; rintro e W3 ⟨b, rfl, HB3⟩))
            all_goals
              obtain ⟨q, hq⟩ : ∃ q, q = HB3.out := ⟨_, rfl⟩
              clear hq
              rcases q with ⟨rfl, zs, q1, q2, q3⟩ | ⟨rfl, zs, q1, q2⟩
              · have Q1 := hid q1
                have Q2 := hid q2
                have Q3 := hid q3
                clear q1 q2 q3 HB3
                gi_wp2_with fail
                go_roundw
                case rel => exact ⟨k + 1, ys ++ zs, by omega, by go_num, Q1.out, Q2.out, Q3.out⟩
                case measure => simp [intOf]; omega
              · have Q1 := hid q1
                have Q2 := hid q2
                clear q1 q2 HB3
                gi_wp2_with fail
                exact HNO.out _ _ Q1.out Q2.out
          · have HF : Hid ((pre ++ ys).map Prod.fst ++ (zBu path (j + 1) (ts.drop (j + 1)) ++ REST) = TOT) := by show _ = _; rw [← HR.out, show ts[j].kids.drop k = [] from List.drop_of_length_le hge2, zCi, List.nil_append]
            clear hrest2 hbr2 hjr2
            gi_wp2_with fail
            go_roundw
            case rel => exact ⟨j + 1, ys, by omega, by go_num, HJR.out, HBR.out, HF.out⟩
            case measure => simp [intOf]; omega
      · exact HNO.out _ _ (HPF2.out v1) HX2.out
    · have hje : j = ts.length := by omega
      have d1 : ((j : Int) == (ts.length : Int)) = true := by simp; omega
      have HF : Hid ((pre ++ (xs ++ [((path ++ [(j : Int)], .bool true) : PosV)])).map Prod.fst ++ REST = TOT) := by show _ = _; rw [← HR.out, List.drop_of_length_le (by omega), zBu]; simp
      have HFV : Hid (∀ v1, (pre ++ (xs ++ [((path ++ [(j : Int)], v1) : PosV)])).map Prod.fst ++ REST = TOT) := fun v1 => by rw [← HF.out]; simp
      have HYY2 : Hid (∀ v1 w1, zAh w1 (fun k => wr.heap.size ≤ k ∧ k < w1.heap.size) (path ++ [(j : Int)]) v1 → Below wr.heap.size wr w1 → YieldAt Fence.wide 0 Tryz.prog l #[v1] w1 fun e W' =>
        (e = .returned (.bool true) ∧ Hid (J (pre ++ (xs ++ [(path ++ [(j : Int)], v1)])) W') ∧ Hid (But V w W') ∧ W'.cell? ⟨g, o + 3, none⟩ = some (.slice A ts.length cap)) ∨ (e = .returned (.bool false) ∧ Hid (Jx (pre ++ (xs ++ [(path ++ [(j : Int)], v1)])) W'))) :=
        fun v1 w1 h1 h2 => YieldAt.mono (HYY.out v1 w1 h1 h2) fun e W' h => h.imp (fun ⟨a, b, c⟩ => ⟨a, b, c, KEEP0.out W' c.out⟩) id
      clear hje hge HF HYY
      gi_wp2_with (first
        | (refine ⟨trivial, rfl, ?_⟩; gi_at_call 73; refine (HC1.out _).mono ?_; rintro e w1 ⟨v1, rfl, hr1, hb1⟩; obtain ⟨fn, tmps, assign, body, hy, hR⟩ := HYY2.out v1 w1 hr1 hb1; clear hr1 hb1)
        | ((try refine ⟨rfl, ?_⟩); refine hR.mono ?_; clear hR; rintro e W2 (⟨rfl, HJ2, HB2, c2⟩ | ⟨rfl, HX2⟩)))
      · exact HRES.out _ _ (HFV.out v1) HJ2.out HB2.out
      · exact HNO.out _ _ (HPF2.out v1) HX2.out
end Go.Proofs.YtbjcioknfjofkaaGreat
