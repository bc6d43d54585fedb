/- vinculumlaw11.SelectionEnds: the walk. -/
import Derived.Test.YtognlokeadlpbaaAwk11
import Derived.Test.YtognlokeadlpbaaSelEndP
import Derived.Test.YtognlokeadlpbaaSelBox
import Derived.Test.YtognlokeadlpbaaIdx
import Derived.Test.YtognlokeadlpbaaSel6
set_option linter.unusedVariables false
set_option linter.unusedSimpArgs false
set_option maxRecDepth 100000
namespace Go.Proofs.Ytognlokeadlpbaa
open Go.RowKit

def Got (w : World) (m : List Int) (x y er : Int) (e : Ending) (w' : World) : Prop :=
  ∃ v, e = .returned (.tuple #[.agg #[v, .int .i64 x, .int .i64 y], .int .i64 er]) ∧ IntsR w' (fun k => w.heap.size ≤ k ∧ k < w'.heap.size) m v ∧ Below w.heap.size w w'
theorem BetV.got {w w' : World} {r : (List Int × Int × Int) × Int} {e : Ending} (h : BetV w r e w') : Got w r.1.1 r.1.2.1 r.1.2.2 r.2 e w' := h

set_option maxHeartbeats 4000000 in
theorem selEnds_walk (t : Tree) (p : List Int) (x y : Int) (A Ap : Option Addr) (cap cp : Nat) (w : World) (hv : SliceR treeE w (Lt w.heap.size) t.kids (.slice A t.kids.length cap)) (hok : NodeOk t) (hp : IntsR w (Lt w.heap.size) p (.slice Ap p.length cp)) (hx : In64 x) (hy : In64 y) :
    Calls Try.prog 8 #[.agg #[.int .i64 t.kind, .string t.text, .int .i64 t.cols, .slice A t.kids.length cap], .agg #[.slice Ap p.length cp, .int .i64 x, .int .i64 y]] w fun e w' => e = .returned (.bool true) ∧ Below w.heap.size w w' := by
  have hlp := hp.lens
  have CF : Hid (∀ W, Below w.heap.size w W → Calls Try.prog 15 #[.agg #[.int .i64 t.kind, .string t.text, .int .i64 t.cols, .slice A t.kids.length cap], .slice Ap p.length cp, .slice none 0 0] W fun e w' => e = .returned (.bool (few11S t p [])) ∧ Below W.heap.size W w') := fun W hW => few11_any t p [] A Ap none cap cp 0 W (hv.below hW hW.size) hlp (Nat.zero_le _)
  generalize hW0 : (w.alloc (Obj.cells #[.int .i64 t.kind, .string t.text, .int .i64 t.cols, .slice A t.kids.length cap] 24)).alloc (.cells #[.slice Ap p.length cp, .int .i64 x, .int .i64 y] 29) = W0
  have KB := hid (boxes w t.kind t.cols t.text (.slice A t.kids.length cap) (.slice Ap p.length cp) x y W0 hW0)
  cases hfew : few11S t p []
  · rw [hfew] at CF
    obtain ⟨tk, tx, tc, ts⟩ := t
    simp only [Tree.kind, Tree.text, Tree.cols, Tree.kids] at *
    clear hv hok hp hfew hlp
    go_enter Try.func8, Try.ntmps8
    go_wp2_with fail
    refine (awake11_any _).mono ?_
    rintro e w1 ⟨rfl, hb1⟩
    obtain ⟨⟨m0, m1, m2, m3⟩, ⟨c0, c1, c2⟩, hbw, hz1⟩ := KB.out w1 hb1
    have HBW := hid hbw
    clear hb1 hbw
    go_wp2_with fail
    refine (CF.out _ HBW.out).mono ?_
    rintro e w3 ⟨rfl, hb3⟩
    have HB3 : Hid (Below w1.heap.size w1 w3) := hid hb3
    clear hb3
    go_wp2_with fail
    refine (awake11_any _).mono ?_
    rintro e w4 ⟨rfl, hb4⟩
    have HB4 := hid (bl_call (bl_call HBW.out HB3.out) hb4)
    clear hb4
    go_wp2_with fail
    go_ret
    exact ⟨rfl, HB4.out⟩
  have hct : countS t ≤ 900000 := by
    unfold few11S at hfew
    simp only [Bool.and_eq_true] at hfew
    have := few_count hfew.1.1
    omega
  have hlp6 : p.length ≤ 60 := by
    unfold few11S at hfew
    simp only [Bool.and_eq_true, decide_eq_true_eq] at hfew
    exact hfew.1.2
  rw [hfew] at CF
  have C1 : Hid (∀ W, Below w.heap.size w W → Calls Try.prog 28 #[.agg #[.int .i64 t.kind, .string t.text, .int .i64 t.cols, .slice A t.kids.length cap], .agg #[.slice Ap p.length cp, .int .i64 x, .int .i64 y]] W (ItemsRes W (itemsR t p x y))) := fun W hW => items_any t p x y A Ap cap cp W (hv.below hW hW.size) hok hct (hp.below hW hW.size) hx hy
  have CS : Hid (∀ W, Below w.heap.size w W → Calls Try.prog 24 #[.agg #[.slice Ap p.length cp, .int .i64 x, .int .i64 y]] W (IntsPost W (p ++ [x]))) := fun W hW => sstart_any p x y _ W (hp.below hW hW.size) (by omega) hx
  have CE : Hid (∀ W, Below w.heap.size w W → Calls Try.prog 26 #[.agg #[.slice Ap p.length cp, .int .i64 x, .int .i64 y]] W (IntsPost W (p ++ [y]))) := fun W hW => send_any p y x _ W (hp.below hW hW.size) (by omega) hy
  have CB0 : ∀ W va vb, Below w.heap.size w W → IntsR W (Lt W.heap.size) (p ++ [x]) va → IntsR W (Lt W.heap.size) (p ++ [y]) vb → Calls Try.prog 16 #[.agg #[.int .i64 t.kind, .string t.text, .int .i64 t.cols, .slice A t.kids.length cap], va, vb] W (BetV W (betV (validS t) (posIn t (p ++ [x])) (posIn t (p ++ [y])) (btS (p ++ [x]) (p ++ [y])))) := fun W va vb hW ha hb => (selBetween_any t (p ++ [x]) (p ++ [y]) A cap va vb W (hv.below hW hW.size) hok.2.2 ha hb).mono fun e w' h => BetRes.v h
  have CV : Hid (∀ (q : List Int) W vq, Below w.heap.size w W → IntsR W (Lt W.heap.size) q vq → Calls Try.prog 37 #[.agg #[.int .i64 t.kind, .string t.text, .int .i64 t.cols, .slice A t.kids.length cap], vq] W fun e w' => e = .returned (.bool (validS t && posIn t q)) ∧ Below W.heap.size W w') := fun q W vq hW hq => rValid_any t q A cap vq W (hv.below hW hW.size) hok.2.2 hct hq
  have CP : Hid (∀ W, Below w.heap.size w W → IntsR W (Lt W.heap.size) p (.slice Ap p.length cp)) := fun W hW => hp.below hW hW.size
  have HPL := hid (fun L er h => ends_plain (t := t) (p := p) (x := x) (y := y) (L := L) (er := er) h)
  obtain ⟨⟨L, er⟩, hres⟩ : ∃ r, itemsR t p x y = r := ⟨_, rfl⟩
  obtain ⟨P1, P2⟩ := HPL.out L er hres
  rw [hres] at C1
  rcases Decidable.em (er = 0) with he | he
  case inr =>
    obtain rfl := P1 he
    have i0 : (er != 0) = true := by simpa using he
    obtain ⟨tk, tx, tc, ts⟩ := t
    simp only [Tree.kind, Tree.text, Tree.cols, Tree.kids] at *
    clear hv hok hp hfew hlp hct P1 P2 HPL he hres CB0
    go_enter Try.func8, Try.ntmps8
    go_wp2_with fail
    refine (awake11_any _).mono ?_
    rintro e w1 ⟨rfl, hb1⟩
    obtain ⟨⟨m0, m1, m2, m3⟩, ⟨c0, c1, c2⟩, hbw, hz1⟩ := KB.out w1 hb1
    have HBW := hid hbw
    have HT1 := hid hb1
    clear hb1 hbw
    go_wp2_with fail
    refine (CF.out _ HBW.out).mono ?_
    rintro e w3 ⟨rfl, hb3⟩
    have HT3 := hid (HT1.out.trans (hb3.mono HT1.out.size))
    clear hb3 m0 m1 m2 m3 c0 c1 c2 hz1
    obtain ⟨⟨m0, m1, m2, m3⟩, ⟨c0, c1, c2⟩, hbw, hz1⟩ := KB.out w3 HT3.out
    have HK3 := hid hbw
    clear hbw
    go_wp2_with fail
    refine (C1.out _ HK3.out).mono ?_
    intro e w4 h4
    obtain ⟨v4, rfl, hr4, hb4⟩ : ∃ v, e = .returned (.tuple #[v, .int .i64 er]) ∧ SliceR treeE w4 (Lt w4.heap.size) [] v ∧ Below w3.heap.size w3 w4 := h4
    obtain ⟨A4, c4, rfl⟩ := hr4.form
    have HK4 := hid (bl_call HK3.out hb4)
    clear hb4 hr4 m0 m1 m2 m3 c0 c1 c2 hz1
    go_wp2_with fail
    go_ret
    exact ⟨by simp, HK4.out⟩
  subst he
  obtain ⟨q1, q2, q3, q4, q5, q6, q7⟩ := P2 rfl
  have CB : Hid (∀ W va vb, Below w.heap.size w W → IntsR W (Lt W.heap.size) (p ++ [x]) va → IntsR W (Lt W.heap.size) (p ++ [y]) vb → Calls Try.prog 16 #[.agg #[.int .i64 t.kind, .string t.text, .int .i64 t.cols, .slice A t.kids.length cap], va, vb] W (Got W p x y 0)) := fun W va vb hW ha hb => (CB0 W va vb hW ha hb).mono fun e w' h => by
    rw [q1, q2, q3, q4] at h
    exact h
  have CVX : Hid (∀ W vq, Below w.heap.size w W → IntsR W (Lt W.heap.size) (p ++ [x]) vq → Calls Try.prog 37 #[.agg #[.int .i64 t.kind, .string t.text, .int .i64 t.cols, .slice A t.kids.length cap], vq] W fun e w' => e = .returned (.bool true) ∧ Below W.heap.size W w') := fun W vq hW hq => by
    have h := CV.out _ W vq hW hq
    rw [q1, q2] at h
    exact h
  have CVY : Hid (∀ W vq, Below w.heap.size w W → IntsR W (Lt W.heap.size) (p ++ [y]) vq → Calls Try.prog 37 #[.agg #[.int .i64 t.kind, .string t.text, .int .i64 t.cols, .slice A t.kids.length cap], vq] W fun e w' => e = .returned (.bool true) ∧ Below W.heap.size W w') := fun W vq hW hq => by
    have h := CV.out _ W vq hW hq
    rw [q1, q3] at h
    exact h
  have i0 : IntKind.i64.wrap (y - x) = y - x := IntWalk.i64_in _ (by unfold In64 at hx hy; omega)
  have i1 : ((L.length : Int) == y - x) = true := by simpa using q5
  obtain ⟨tk, tx, tc, ts⟩ := t
  simp only [Tree.kind, Tree.text, Tree.cols, Tree.kids] at *
  clear hv hok hp hfew hlp hct P1 P2 HPL hres CB0 q1 q2 q3 q4 q5 q6 q7 CV
  generalize p ++ [x] = px at *
  generalize p ++ [y] = py at *
  go_enter Try.func8, Try.ntmps8
  go_wp2_with fail
  refine (awake11_any _).mono ?_
  rintro e w1 ⟨rfl, hb1⟩
  obtain ⟨⟨m0, m1, m2, m3⟩, ⟨c0, c1, c2⟩, hbw, hz1⟩ := KB.out w1 hb1
  have HBW := hid hbw
  have HT1 := hid hb1
  clear hb1 hbw
  go_wp2_with fail
  refine (CF.out _ HBW.out).mono ?_
  rintro e w3 ⟨rfl, hb3⟩
  have HT3 := hid (HT1.out.trans (hb3.mono HT1.out.size))
  clear hb3 m0 m1 m2 m3 c0 c1 c2 hz1
  obtain ⟨⟨m0, m1, m2, m3⟩, ⟨c0, c1, c2⟩, hbw, hz1⟩ := KB.out w3 HT3.out
  have HK3 := hid hbw
  clear hbw
  go_wp2_with fail
  refine (C1.out _ HK3.out).mono ?_
  intro e w4 h4
  obtain ⟨v4, rfl, hr4, hb4⟩ : ∃ v, e = .returned (.tuple #[v, .int .i64 0]) ∧ SliceR treeE w4 (Lt w4.heap.size) L v ∧ Below w3.heap.size w3 w4 := h4
  obtain ⟨A4, c4, rfl⟩ := hr4.form
  have HT4 := hid (HT3.out.trans (hb4.mono HT3.out.size))
  clear hb4 hr4 m0 m1 m2 m3 c0 c1 c2 hz1
  obtain ⟨hm, ⟨c0, c1, c2⟩, hbw, hz1⟩ := KB.out w4 HT4.out
  have HK4 := hid hbw
  have KEEP : Hid (∀ W, Below w4.heap.size w4 W → (W.cell? ⟨w.heap.size + 1, 0, none⟩ = some (.slice Ap p.length cp) ∧ W.cell? ⟨w.heap.size + 1, 1, none⟩ = some (.int .i64 x) ∧ W.cell? ⟨w.heap.size + 1, 2, none⟩ = some (.int .i64 y)) ∧ Below w.heap.size w W) := fun W h => by
    obtain ⟨_, h1, h2, _⟩ := KB.out W (HT4.out.trans (h.mono HT4.out.size))
    exact ⟨h1, h2⟩
  clear hbw hm
  go_wp2_with fail
  go_region_held3 (fun w' => w'.cell? ⟨w.heap.size + 1, 0, none⟩ = some (.slice Ap p.length cp) ∧ w'.cell? ⟨w.heap.size + 1, 1, none⟩ = some (.int .i64 x) ∧ w'.cell? ⟨w.heap.size + 1, 2, none⟩ = some (.int .i64 y)) (go_keep) (first
    | (go_at_call 24; refine (CS.out _ (bl_drew HK4.out)).mono ?_; rintro e w5 ⟨v5, rfl, hi5, hb5⟩; obtain ⟨A5, c5, rfl⟩ := hi5.form; have HI5 := hid hi5; have HB5 : Hid (Below w4.heap.size w4 w5) := below_of_drewS hb5; clear hb5 hi5; obtain ⟨⟨k0, k1, k2⟩, kb⟩ := KEEP.out _ HB5.out; have HK5 := hid kb; clear kb)
    | (go_at_call 26; refine (CE.out _ HK5.out).mono ?_; rintro e w6 ⟨v6, rfl, hi6, hb6⟩; obtain ⟨A6, c6, rfl⟩ := hi6.form; have HI6 := hid hi6; have HI56 := hid (HI5.out.below hb6 hb6.size); have HB6 := hid (bl_call HB5.out hb6); clear hb6 hi6; obtain ⟨⟨k0, k1, k2⟩, kb⟩ := KEEP.out _ HB6.out; have HK6 := hid kb; clear kb))
  have HT6 := hid (HT4.out.trans (HB6.out.mono HT4.out.size))
  clear k0 k1 k2 hz1
  obtain ⟨⟨m0, m1, m2, m3⟩, ⟨k0, k1, k2⟩, hbw, hz1⟩ := KB.out w6 HT6.out
  clear hbw
  go_wp2_with fail
  refine (CB.out _ _ _ HK6.out HI56.out HI6.out).mono ?_
  rintro e w7 ⟨v7, rfl, hi7, hb7⟩
  obtain ⟨A7, c7, rfl⟩ := hi7.form
  have HT7 := hid (HT6.out.trans (hb7.mono HT6.out.size))
  have HK7 := hid (bl_call HK6.out hb7)
  have HI57 := hid (HI56.out.below hb7 hb7.size)
  have HI67 := hid (HI6.out.below hb7 hb7.size)
  have HI7 := hid hi7
  clear hb7 hi7 m0 m1 m2 m3 k0 k1 k2 hz1
  go_upto_region 8 with fail
  obtain ⟨X, hX⟩ : ∃ X, w7.alloc (Obj.cells #[.slice A7 p.length c7, .int .i64 x, .int .i64 y] 29) = X := ⟨_, rfl⟩
  rw [hX]
  have HXB : Hid (Below w7.heap.size w7 X) := by show Below _ _ _; rw [← hX]; exact below_allocR' _ _
  have n0 : X.cell? ⟨w7.heap.size, 0, none⟩ = some (.slice A7 p.length c7) := by rw [← hX]; exact na_c _ _ _ _ _ rfl
  have n1 : X.cell? ⟨w7.heap.size, 1, none⟩ = some (.int .i64 x) := by rw [← hX]; exact na_c _ _ _ _ _ rfl
  have n2 : X.cell? ⟨w7.heap.size, 2, none⟩ = some (.int .i64 y) := by rw [← hX]; exact na_c _ _ _ _ _ rfl
  have HTX := hid (HT7.out.trans (HXB.out.mono HT7.out.size))
  have HKX := hid (bl_call HK7.out HXB.out)
  have HI5X := hid (HI57.out.below HXB.out HXB.out.size)
  have HI6X := hid (HI67.out.below HXB.out HXB.out.size)
  have HSA := hid (rangeSame_any p x y (.slice Ap p.length cp) (.slice A7 p.length c7) X (CP.out X HKX.out) (HI7.out.keep (fun q hq => HXB.out.cell hq.2) (fun k hk => Nat.lt_of_lt_of_le hk.2 HXB.out.size)))
  obtain ⟨⟨m0, m1, m2, m3⟩, ⟨k0, k1, k2⟩, hbw, hz1⟩ := KB.out X HTX.out
  clear hbw hX
  go_wp2_with fail
  refine HSA.out.mono ?_
  rintro e w8 ⟨rfl, hb8⟩
  have HT8 := hid (HTX.out.trans (hb8.mono HTX.out.size))
  have HK8 := hid (bl_call HKX.out hb8)
  have HI58 := hid (HI5X.out.below hb8 hb8.size)
  have HI68 := hid (HI6X.out.below hb8 hb8.size)
  clear hb8 m0 m1 m2 m3 k0 k1 k2 hz1 n0 n1 n2 HSA
  obtain ⟨⟨m0, m1, m2, m3⟩, ⟨k0, k1, k2⟩, hbw, hz1⟩ := KB.out w8 HT8.out
  clear hbw
  go_wp2_with fail
  refine (CVX.out _ _ HK8.out HI58.out).mono ?_
  rintro e w9 ⟨rfl, hb9⟩
  have HT9 := hid (HT8.out.trans (hb9.mono HT8.out.size))
  have HK9 := hid (bl_call HK8.out hb9)
  have HI69 := hid (HI68.out.below hb9 hb9.size)
  clear hb9 m0 m1 m2 m3 k0 k1 k2 hz1
  obtain ⟨⟨m0, m1, m2, m3⟩, ⟨k0, k1, k2⟩, hbw, hz1⟩ := KB.out w9 HT9.out
  clear hbw
  go_wp2_with fail
  refine (CVY.out _ _ HK9.out HI69.out).mono ?_
  rintro e w10 ⟨rfl, hb10⟩
  have HT10 := hid (HT9.out.trans (hb10.mono HT9.out.size))
  have HK10 := hid (bl_call HK9.out hb10)
  clear hb10 m0 m1 m2 m3 k0 k1 k2 hz1
  obtain ⟨⟨m0, m1, m2, m3⟩, ⟨k0, k1, k2⟩, hbw, hz1⟩ := KB.out w10 HT10.out
  clear hbw
  go_wp2_with fail
  go_ret
  exact ⟨rfl, HK10.out⟩
end Go.Proofs.Ytognlokeadlpbaa
