/- vinculumlaw10.PositionIndex: the walk. Written by wip/genlaw10.py. -/
import Derived.Test.YtognlokeadlpbaaAwk10
import Derived.Test.YtognlokeadlpbaaPos7
import Derived.Test.YtognlokeadlpbaaPos6
set_option linter.unusedVariables false
set_option linter.unusedSimpArgs false
set_option maxRecDepth 100000
namespace Go.Proofs.Ytognlokeadlpbaa
open Go.RowKit

set_option maxHeartbeats 4000000 in
theorem posIndex_walk (t : Tree) (p : List Int) (k : Int) (A Ap : Option Addr) (cap cp : Nat) (w : World) (hv : SliceR treeE w (Lt w.heap.size) t.kids (.slice A t.kids.length cap)) (htx : t.text.size ≤ maxLen) (hp : IntsR w (Lt w.heap.size) p (.slice Ap p.length cp)) :
    Calls Try.prog 12 #[.agg #[.int .i64 t.kind, .string t.text, .int .i64 t.cols, .slice A t.kids.length cap], .slice Ap p.length cp, .int .i64 k] w fun e w' => e = .returned (.bool true) ∧ Below w.heap.size w w' := by
  have KB : Hid (∀ W, Below (w.alloc (.cells #[.int .i64 t.kind, .string t.text, .int .i64 t.cols, .slice A t.kids.length cap] 24)).heap.size (w.alloc (.cells #[.int .i64 t.kind, .string t.text, .int .i64 t.cols, .slice A t.kids.length cap] 24)) W →
      (W.cell? ⟨w.heap.size, 0, none⟩ = some (.int .i64 t.kind) ∧ W.cell? ⟨w.heap.size, 1, none⟩ = some (.string t.text) ∧ W.cell? ⟨w.heap.size, 2, none⟩ = some (.int .i64 t.cols) ∧ W.cell? ⟨w.heap.size, 3, none⟩ = some (.slice A t.kids.length cap)) ∧ Below w.heap.size w W ∧ w.heap.size < W.heap.size) := by
    intro W hW
    have hc := (bcell hW).1
    exact ⟨⟨(hc _ _ (by simp)).trans (na_c _ _ _ _ _ rfl), (hc _ _ (by simp)).trans (na_c _ _ _ _ _ rfl), (hc _ _ (by simp)).trans (na_c _ _ _ _ _ rfl), (hc _ _ (by simp)).trans (na_c _ _ _ _ _ rfl)⟩, (below_allocR' _ _).trans (hW.mono (by simp)), by have := hW.size; simp at this; omega⟩
  have hla := hp.lens
  have CF : Hid (∀ W, Below w.heap.size w W → Calls Try.prog 34 #[.agg #[.int .i64 t.kind, .string t.text, .int .i64 t.cols, .slice A t.kids.length cap], .slice Ap p.length cp] W fun e w' => e = .returned (.bool (few10S t p)) ∧ Below W.heap.size W w') := fun W hW => few10_any t p A Ap cap cp W (hv.below hW hW.size) hla
  cases hfew : few10S t p
  · rw [hfew] at CF
    obtain ⟨tk, tx, tc, ts⟩ := t
    simp only [Tree.kind, Tree.text, Tree.cols, Tree.kids] at *
    clear hv htx hp hfew hla
    go_enter Try.func12, Try.ntmps12
    go_wp2_with fail
    refine (awake10_any _).mono ?_
    rintro e w1 ⟨rfl, hb1⟩
    obtain ⟨⟨m0, m1, m2, m3⟩, hbw, hz1⟩ := KB.out w1 hb1
    have HBW := hid hbw
    clear hb1 hbw
    go_wp2_with fail
    refine (CF.out _ HBW.out).mono ?_
    rintro e w3 ⟨rfl, hb3⟩
    have HB3 : Hid (Below w1.heap.size w1 w3) := hid hb3
    clear hb3
    go_wp2_with fail
    refine (awake10_any _).mono ?_
    rintro e w4 ⟨rfl, hb4⟩
    have HB4 := hid (bl_call (bl_call HBW.out HB3.out) hb4)
    clear hb4
    go_wp2_with fail
    go_ret
    exact ⟨rfl, HB4.out⟩
  have hct : countS t ≤ 200 := (few10_count hfew).1
  rw [hfew] at CF
  have C1 : Hid (∀ W, Below w.heap.size w W → Calls Try.prog 46 #[.agg #[.int .i64 t.kind, .string t.text, .int .i64 t.cols, .slice A t.kids.length cap], .slice Ap p.length cp] W fun e w' => e = .returned (.tuple #[.int .i64 (idxR (validS t) (idxS (allS [] t) p)).1, .int .i64 (idxR (validS t) (idxS (allS [] t) p)).2]) ∧ Below W.heap.size W w') := fun W h => by rw [← index_eq]; exact pindex_any t p A cap _ W (hv.below h h.size) htx (hp.below h h.size)
  have C2 : Hid (∀ W, Below w.heap.size w W → Calls Try.prog 47 #[.agg #[.int .i64 t.kind, .string t.text, .int .i64 t.cols, .slice A t.kids.length cap], .slice Ap p.length cp] W fun e w' => e = .returned (.tuple #[.int .i64 (idxR (validS t) (idxS (allS [] t) p)).1, .int .i64 (idxR (validS t) (idxS (allS [] t) p)).2]) ∧ Below W.heap.size W w') := fun W h => by
    refine (rIndex_any t p A cap _ W (hv.below h h.size) htx (by omega) (hp.below h h.size)).mono ?_
    rintro e w' ⟨hb, (⟨h1, rfl⟩ | ⟨h1, (⟨h2, rfl⟩ | ⟨i, _, h2, rfl⟩)⟩)⟩
    · exact ⟨by rw [h1]; rfl, hb⟩
    · exact ⟨by rw [h1, h2]; rfl, hb⟩
    · exact ⟨by rw [h1, h2]; rfl, hb⟩
  have C3 : Hid (∀ W, Below w.heap.size w W → Calls Try.prog 48 #[.agg #[.int .i64 t.kind, .string t.text, .int .i64 t.cols, .slice A t.kids.length cap], .int .i64 k] W (PosRes W (atR t k))) := fun W h => pat_any t k A cap W (hv.below h h.size) htx
  have C4 : Hid (∀ W, Below w.heap.size w W → Calls Try.prog 49 #[.agg #[.int .i64 t.kind, .string t.text, .int .i64 t.cols, .slice A t.kids.length cap], .int .i64 k] W (PosRes W (atR t k))) := fun W h => rAt_any t k A cap W (hv.below h h.size) htx (by omega)
  have CM : Hid (∀ (m : List Int) (W : World) (S1 S2 : Nat → Prop) (v1 v2 : Value), IntsR W S1 m v1 → IntsR W S2 m v2 → Calls Try.prog 23 #[v1, v2] W fun e w' => e = .returned (.bool true) ∧ ∃ n, w' = W.drewN n) := by
    intro m W S1 S2 v1 v2 h1 h2
    have h := same_q _ _ W v1 v2 S1 S2 h1 h2
    rw [decide_eq_true ((cmpS_zero _ _).2 rfl)] at h
    exact h
  generalize idxR (validS t) (idxS (allS [] t) p) = r1 at *
  generalize atR t k = r2 at *
  obtain ⟨m1, e1⟩ := r1
  obtain ⟨m2, e2⟩ := r2
  dsimp only at C1 C2
  have d1 : (e1 == e1) = true := by simp
  have d2 : (e2 == e2) = true := by simp
  have d3 : (m1 == m1) = true := by simp
  obtain ⟨tk, tx, tc, ts⟩ := t
  simp only [Tree.kind, Tree.text, Tree.cols, Tree.kids] at *
  clear hv htx hp hfew hla hct
  go_enter Try.func12, Try.ntmps12
  go_wp2_with fail
  refine (awake10_any _).mono ?_
  rintro e w1 ⟨rfl, hb1⟩
  obtain ⟨⟨k0, k1, k2, k3⟩, hbw, hz1⟩ := KB.out w1 hb1
  have HBW := hid hbw
  have KE : Hid (∀ W, Below w1.heap.size w1 W → (W.cell? ⟨w.heap.size, 0, none⟩ = some (.int .i64 tk) ∧ W.cell? ⟨w.heap.size, 1, none⟩ = some (.string tx) ∧ W.cell? ⟨w.heap.size, 2, none⟩ = some (.int .i64 tc) ∧ W.cell? ⟨w.heap.size, 3, none⟩ = some (.slice A ts.length cap)) ∧ Below w.heap.size w W ∧ w.heap.size < W.heap.size) := fun W h => KB.out W (hb1.trans (h.mono hb1.size))
  clear hb1 hbw KB
  go_wp2_with fail
  refine (CF.out _ HBW.out).mono ?_
  rintro e w2 ⟨rfl, hb2⟩
  have HB2 : Hid (Below w1.heap.size w1 w2) := hid hb2
  clear hb2 k0 k1 k2 k3 hz1 HBW
  obtain ⟨⟨k0, k1, k2, k3⟩, hbw, hz1⟩ := KE.out w2 HB2.out
  have HBW := hid hbw
  clear hbw CF
  go_wp2_with fail
  refine (C1.out _ HBW.out).mono ?_
  rintro e w3 ⟨rfl, hb3⟩
  have HB3 := hid (bl_call HB2.out hb3)
  clear hb3 k0 k1 k2 k3 hz1 HBW
  obtain ⟨⟨k0, k1, k2, k3⟩, hbw, hz1⟩ := KE.out w3 HB3.out
  have HBW := hid hbw
  clear hbw
  go_wp2_with fail
  refine (C2.out _ HBW.out).mono ?_
  rintro e w4 ⟨rfl, hb4⟩
  have HB4 := hid (bl_call HB3.out hb4)
  clear hb4 k0 k1 k2 k3 hz1 HBW
  obtain ⟨⟨k0, k1, k2, k3⟩, hbw, hz1⟩ := KE.out w4 HB4.out
  have HBW := hid hbw
  clear hbw
  go_wp2_with fail
  refine (C3.out _ HBW.out).mono ?_
  rintro e w5 ⟨hb5, v3, rfl, hi3⟩
  have HB5 := hid (bl_call HB4.out hb5)
  obtain ⟨B3, d3, rfl⟩ := SliceR.form hi3
  have HI3 := hid hi3
  clear hi3
  clear hb5 k0 k1 k2 k3 hz1 HBW
  obtain ⟨⟨k0, k1, k2, k3⟩, hbw, hz1⟩ := KE.out w5 HB5.out
  have HBW := hid hbw
  clear hbw
  go_wp2_with fail
  refine (C4.out _ HBW.out).mono ?_
  rintro e w6 ⟨hb6, v4, rfl, hi4⟩
  have HB6 := hid (bl_call HB5.out hb6)
  obtain ⟨B4, d4, rfl⟩ := SliceR.form hi4
  have HC3 := hid (ints_bl HI3.out hb6)
  have HI4 := hid hi4
  clear hi4
  clear hb6 k0 k1 k2 k3 hz1 HBW
  obtain ⟨⟨k0, k1, k2, k3⟩, hbw, hz1⟩ := KE.out w6 HB6.out
  have HBW := hid hbw
  clear hbw
  go_wp2_with (go_at_call 23; refine (CM.out _ _ _ _ _ _ HC3.out HI4.out).mono ?_; rintro e w7 ⟨rfl, n7, rfl⟩)
  go_ret
  exact ⟨rfl, bl_dn HBW.out⟩
end Go.Proofs.Ytognlokeadlpbaa
