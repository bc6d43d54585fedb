/- vinculumlaw10.PositionNeighbours: the walk. Written by wip/genlaw10.py. -/
import Derived.Test.YtognlokeadlpbaaAwk10
import Derived.Test.YtognlokeadlpbaaPos7
import Derived.Test.YtognlokeadlpbaaPos5
import Derived.Test.YtognlokeadlpbaaPosL3
set_option linter.unusedVariables false
set_option linter.unusedSimpArgs false
set_option maxRecDepth 100000
namespace Go.Proofs.Ytognlokeadlpbaa
open Go.RowKit

set_option maxHeartbeats 4000000 in
theorem posNei_walk (t : Tree) (p : List Int) (A Ap : Option Addr) (cap cp : Nat) (w : World) (hv : SliceR treeE w (Lt w.heap.size) t.kids (.slice A t.kids.length cap)) (htx : t.text.size ≤ maxLen) (hp : IntsR w (Lt w.heap.size) p (.slice Ap p.length cp)) :
    Calls Try.prog 13 #[.agg #[.int .i64 t.kind, .string t.text, .int .i64 t.cols, .slice A t.kids.length cap], .slice Ap p.length cp] w fun e w' => e = .returned (.bool true) ∧ Below w.heap.size w w' := by
  have KB : Hid (∀ W, Below (w.alloc (.cells #[.int .i64 t.kind, .string t.text, .int .i64 t.cols, .slice A t.kids.length cap] 24)).heap.size (w.alloc (.cells #[.int .i64 t.kind, .string t.text, .int .i64 t.cols, .slice A t.kids.length cap] 24)) W →
      (W.cell? ⟨w.heap.size, 0, none⟩ = some (.int .i64 t.kind) ∧ W.cell? ⟨w.heap.size, 1, none⟩ = some (.string t.text) ∧ W.cell? ⟨w.heap.size, 2, none⟩ = some (.int .i64 t.cols) ∧ W.cell? ⟨w.heap.size, 3, none⟩ = some (.slice A t.kids.length cap)) ∧ Below w.heap.size w W ∧ w.heap.size < W.heap.size) := by
    intro W hW
    have hc := (bcell hW).1
    exact ⟨⟨(hc _ _ (by simp)).trans (na_c _ _ _ _ _ rfl), (hc _ _ (by simp)).trans (na_c _ _ _ _ _ rfl), (hc _ _ (by simp)).trans (na_c _ _ _ _ _ rfl), (hc _ _ (by simp)).trans (na_c _ _ _ _ _ rfl)⟩, (below_allocR' _ _).trans (hW.mono (by simp)), by have := hW.size; simp at this; omega⟩
  have hla := hp.lens
  have CF : Hid (∀ W, Below w.heap.size w W → Calls Try.prog 34 #[.agg #[.int .i64 t.kind, .string t.text, .int .i64 t.cols, .slice A t.kids.length cap], .slice Ap p.length cp] W fun e w' => e = .returned (.bool (few10S t p)) ∧ Below W.heap.size W w') := fun W hW => few10_any t p A Ap cap cp W (hv.below hW hW.size) hla
  cases hfew : few10S t p
  · rw [hfew] at CF
    obtain ⟨tk, tx, tc, ts⟩ := t
    simp only [Tree.kind, Tree.text, Tree.cols, Tree.kids] at *
    clear hv htx hp hfew hla
    go_enter Try.func13, Try.ntmps13
    go_wp2_with fail
    refine (awake10_any _).mono ?_
    rintro e w1 ⟨rfl, hb1⟩
    obtain ⟨⟨m0, m1, m2, m3⟩, hbw, hz1⟩ := KB.out w1 hb1
    have HBW := hid hbw
    clear hb1 hbw
    go_wp2_with fail
    refine (CF.out _ HBW.out).mono ?_
    rintro e w3 ⟨rfl, hb3⟩
    have HB3 : Hid (Below w1.heap.size w1 w3) := hid hb3
    clear hb3
    go_wp2_with fail
    refine (awake10_any _).mono ?_
    rintro e w4 ⟨rfl, hb4⟩
    have HB4 := hid (bl_call (bl_call HBW.out HB3.out) hb4)
    clear hb4
    go_wp2_with fail
    go_ret
    exact ⟨rfl, HB4.out⟩
  have hct : countS t ≤ 200 := (few10_count hfew).1
  rw [hfew] at CF
  have C1 : Hid (∀ W, Below w.heap.size w W → Calls Try.prog 42 #[.agg #[.int .i64 t.kind, .string t.text, .int .i64 t.cols, .slice A t.kids.length cap], .slice Ap p.length cp] W (PosRes W (stepR t p 1))) := fun W h => by rw [← next_eq]; exact next_any t p A cap _ W (hv.below h h.size) htx (hp.below h h.size)
  have C2 : Hid (∀ W, Below w.heap.size w W → Calls Try.prog 41 #[.agg #[.int .i64 t.kind, .string t.text, .int .i64 t.cols, .slice A t.kids.length cap]] W (PosRes W (lastR t))) := fun W h => last_any t A cap W (hv.below h h.size) htx
  have C3 : Hid (∀ (q : List Int) (v : Value) W, Below w.heap.size w W → IntsR W (Lt W.heap.size) q v → Calls Try.prog 44 #[.agg #[.int .i64 t.kind, .string t.text, .int .i64 t.cols, .slice A t.kids.length cap], v] W (PosRes W (stepR t q (-1)))) := fun q v W h hq => by rw [← prev_eq]; exact prev_any t q A cap v W (hv.below h h.size) htx hq
  have C4 : Hid (∀ (q : List Int) (v : Value) W, Below w.heap.size w W → IntsR W (Lt W.heap.size) q v → Calls Try.prog 46 #[.agg #[.int .i64 t.kind, .string t.text, .int .i64 t.cols, .slice A t.kids.length cap], v] W fun e w' => e = .returned (.tuple #[.int .i64 (idxR (validS t) (idxS (allS [] t) q)).1, .int .i64 (idxR (validS t) (idxS (allS [] t) q)).2]) ∧ Below W.heap.size W w') := fun q v W h hq => by rw [← index_eq]; exact pindex_any t q A cap v W (hv.below h h.size) htx hq
  have HPK : Hid (∀ W, Below w.heap.size w W → IntsR W (Lt W.heap.size) p (.slice Ap p.length cp)) := fun W h => hp.below h h.size
  have CC : Hid (∀ (a b : List Int) (W : World) (S1 S2 : Nat → Prop) (v1 v2 : Value), IntsR W S1 a v1 → IntsR W S2 b v2 → Calls Try.prog 32 #[v1, v2] W fun e w' => e = .returned (.int .i64 (cmpS a b)) ∧ W = w') := fun a b W S1 S2 v1 v2 h1 h2 => pcmp_q a b W v1 v2 S1 S2 h1 h2
  have HN : Hid (∀ m, stepR t p 1 = (m, 0) → ∃ i : Nat, (i : Int) ≤ 2 * countS t ∧ idxR (validS t) (idxS (allS [] t) p) = ((i : Int), 0) ∧ idxR (validS t) (idxS (allS [] t) m) = ((i : Int) + 1, 0) ∧ stepR t m (-1) = (p, 0) ∧ cmpS p m = -1) := neigh t p
  have HL : Hid ((stepR t p 1).2 = 8 → lastR t = (p, 0)) := neigh_last t p
  obtain ⟨m1, e1, hr1⟩ : ∃ m1 e1, stepR t p 1 = (m1, e1) := ⟨_, _, rfl⟩
  obtain ⟨m2, e2, hr2⟩ : ∃ m2 e2, lastR t = (m2, e2) := ⟨_, _, rfl⟩
  rw [hr1] at C1 HL
  rw [hr2] at C2 HL
  by_cases h0 : e1 = 0
  · subst h0
    obtain ⟨i, hib, hx1, hx2, hx3, hx4⟩ := HN.out m1 hr1
    have D1 := hid (fun v W h hq => C4.out p v W h hq)
    have D2 := hid (fun v W h hq => C4.out m1 v W h hq)
    have D3 := hid (fun v W h hq => C3.out m1 v W h hq)
    rw [hx1] at D1
    rw [hx2] at D2
    rw [hx3] at D3
    dsimp only at D1 D2
    have E1 := hid (fun W S1 S2 v1 v2 h1 h2 => CC.out p p W S1 S2 v1 v2 h1 h2)
    have E2 := hid (fun W S1 S2 v1 v2 h1 h2 => CC.out p m1 W S1 S2 v1 v2 h1 h2)
    rw [cmpS_self] at E1
    rw [hx4] at E2
    have hi1 : (0 : Int) ≤ (i : Int) := by omega
    have hi2 : (i : Int) ≤ 400 := by omega
    clear C2 C3 C4 CC HN HL hx1 hx2 hx3 hx4 hr1 hr2 hib
    obtain ⟨tk, tx, tc, ts⟩ := t
    simp only [Tree.kind, Tree.text, Tree.cols, Tree.kids] at *
    clear hv htx hp hfew hla hct
    go_enter Try.func13, Try.ntmps13
    go_wp2_with fail
    refine (awake10_any _).mono ?_
    rintro e w1 ⟨rfl, hb1⟩
    obtain ⟨⟨k0, k1, k2, k3⟩, hbw, hz1⟩ := KB.out w1 hb1
    have HBW := hid hbw
    have KE : Hid (∀ W, Below w1.heap.size w1 W → (W.cell? ⟨w.heap.size, 0, none⟩ = some (.int .i64 tk) ∧ W.cell? ⟨w.heap.size, 1, none⟩ = some (.string tx) ∧ W.cell? ⟨w.heap.size, 2, none⟩ = some (.int .i64 tc) ∧ W.cell? ⟨w.heap.size, 3, none⟩ = some (.slice A ts.length cap)) ∧ Below w.heap.size w W ∧ w.heap.size < W.heap.size) := fun W h => KB.out W (hb1.trans (h.mono hb1.size))
    clear hb1 hbw KB
    go_wp2_with fail
    refine (CF.out _ HBW.out).mono ?_
    rintro e w2 ⟨rfl, hb2⟩
    have HB2 : Hid (Below w1.heap.size w1 w2) := hid hb2
    clear hb2 k0 k1 k2 k3 hz1 HBW
    obtain ⟨⟨k0, k1, k2, k3⟩, hbw, hz1⟩ := KE.out w2 HB2.out
    have HBW := hid hbw
    clear hbw CF
    go_wp2_with fail
    refine (C1.out _ HBW.out).mono ?_
    rintro e w3 ⟨hb3, v1, rfl, hi1⟩
    have HB3 := hid (bl_call HB2.out hb3)
    obtain ⟨B1, d1, rfl⟩ := SliceR.form hi1
    have HI1 := hid hi1
    clear hi1
    clear hb3 k0 k1 k2 k3 hz1 HBW
    obtain ⟨⟨k0, k1, k2, k3⟩, hbw, hz1⟩ := KE.out w3 HB3.out
    have HBW := hid hbw
    clear hbw
    go_wp2_with fail
    refine (D3.out _ _ HBW.out (HI1.out.wide fun _ h => h.2)).mono ?_
    rintro e w4 ⟨hb4, v2, rfl, hi2'⟩
    have HB4 := hid (bl_call HB3.out hb4)
    obtain ⟨B2, d2, rfl⟩ := SliceR.form hi2'
    have HI2 := hid hi2'
    have HC1 := hid (ints_bl HI1.out hb4)
    clear hi2'
    clear hb4 k0 k1 k2 k3 hz1 HBW
    obtain ⟨⟨k0, k1, k2, k3⟩, hbw, hz1⟩ := KE.out w4 HB4.out
    have HBW := hid hbw
    clear hbw
    go_wp2_with fail
    refine (D1.out _ _ HBW.out (HPK.out _ HBW.out)).mono ?_
    rintro e w5 ⟨rfl, hb5⟩
    have HB5 := hid (bl_call HB4.out hb5)
    have HE1 := hid (ints_bl HC1.out hb5)
    have HE2 := hid (ints_bl HI2.out hb5)
    clear hb5 k0 k1 k2 k3 hz1 HBW
    obtain ⟨⟨k0, k1, k2, k3⟩, hbw, hz1⟩ := KE.out w5 HB5.out
    have HBW := hid hbw
    clear hbw
    go_wp2_with fail
    refine (D2.out _ _ HBW.out (HE1.out.wide fun _ h => h.2)).mono ?_
    rintro e w6 ⟨rfl, hb6⟩
    have HB6 := hid (bl_call HB5.out hb6)
    have HF1 := hid (ints_bl HE1.out hb6)
    have HF2 := hid (ints_bl HE2.out hb6)
    clear hb6 k0 k1 k2 k3 hz1 HBW
    obtain ⟨⟨k0, k1, k2, k3⟩, hbw, hz1⟩ := KE.out w6 HB6.out
    have HBW := hid hbw
    clear hbw
    go_wp2_with (first
      | (go_at_call 32; with_reducible refine (E1.out _ _ _ _ _ HF2.out (HPK.out _ HBW.out)).mono ?_; rintro e w7 ⟨rfl, rfl⟩)
      | (go_at_call 32; with_reducible refine (E2.out _ _ _ _ _ (HPK.out _ HBW.out) HF1.out).mono ?_; rintro e w7 ⟨rfl, rfl⟩))
    go_ret
    exact ⟨rfl, HBW.out⟩
  · have d0 : (e1 != 0) = true := by simpa using h0
    by_cases h8 : e1 = 8
    · subst h8
      have hq := HL.out rfl
      rw [hq] at C2
      have E1 := hid (fun W S1 S2 v1 v2 h1 h2 => CC.out p p W S1 S2 v1 v2 h1 h2)
      rw [cmpS_self] at E1
      clear C3 C4 CC HN HL hr1 hr2 h0 hq
      obtain ⟨tk, tx, tc, ts⟩ := t
      simp only [Tree.kind, Tree.text, Tree.cols, Tree.kids] at *
      clear hv htx hp hfew hla hct
      go_enter Try.func13, Try.ntmps13
      go_wp2_with fail
      refine (awake10_any _).mono ?_
      rintro e w1 ⟨rfl, hb1⟩
      obtain ⟨⟨k0, k1, k2, k3⟩, hbw, hz1⟩ := KB.out w1 hb1
      have HBW := hid hbw
      have KE : Hid (∀ W, Below w1.heap.size w1 W → (W.cell? ⟨w.heap.size, 0, none⟩ = some (.int .i64 tk) ∧ W.cell? ⟨w.heap.size, 1, none⟩ = some (.string tx) ∧ W.cell? ⟨w.heap.size, 2, none⟩ = some (.int .i64 tc) ∧ W.cell? ⟨w.heap.size, 3, none⟩ = some (.slice A ts.length cap)) ∧ Below w.heap.size w W ∧ w.heap.size < W.heap.size) := fun W h => KB.out W (hb1.trans (h.mono hb1.size))
      clear hb1 hbw KB
      go_wp2_with fail
      refine (CF.out _ HBW.out).mono ?_
      rintro e w2 ⟨rfl, hb2⟩
      have HB2 : Hid (Below w1.heap.size w1 w2) := hid hb2
      clear hb2 k0 k1 k2 k3 hz1 HBW
      obtain ⟨⟨k0, k1, k2, k3⟩, hbw, hz1⟩ := KE.out w2 HB2.out
      have HBW := hid hbw
      clear hbw CF
      go_wp2_with fail
      refine (C1.out _ HBW.out).mono ?_
      rintro e w3 ⟨hb3, v1, rfl, hi1⟩
      have HB3 := hid (bl_call HB2.out hb3)
      obtain ⟨B1, d1, rfl⟩ := SliceR.form hi1
      have HI1 := hid hi1
      clear hi1
      clear hb3 k0 k1 k2 k3 hz1 HBW
      obtain ⟨⟨k0, k1, k2, k3⟩, hbw, hz1⟩ := KE.out w3 HB3.out
      have HBW := hid hbw
      clear hbw
      go_wp2_with fail
      refine (C2.out _ HBW.out).mono ?_
      rintro e w4 ⟨hb4, v2, rfl, hi2⟩
      have HB4 := hid (bl_call HB3.out hb4)
      obtain ⟨B2, d2, rfl⟩ := SliceR.form hi2
      have HI2 := hid hi2
      clear hi2
      clear hb4 k0 k1 k2 k3 hz1 HBW
      obtain ⟨⟨k0, k1, k2, k3⟩, hbw, hz1⟩ := KE.out w4 HB4.out
      have HBW := hid hbw
      clear hbw
      go_wp2_with (go_at_call 32; refine (E1.out _ _ _ _ _ HI2.out (HPK.out _ HBW.out)).mono ?_; rintro e w7 ⟨rfl, rfl⟩)
      go_ret
      exact ⟨rfl, HBW.out⟩
    · have d8 : (e1 != 8) = true := by simpa using h8
      clear C3 C4 CC HN HL hr1 hr2 h0 h8
      obtain ⟨tk, tx, tc, ts⟩ := t
      simp only [Tree.kind, Tree.text, Tree.cols, Tree.kids] at *
      clear hv htx hp hfew hla hct
      go_enter Try.func13, Try.ntmps13
      go_wp2_with fail
      refine (awake10_any _).mono ?_
      rintro e w1 ⟨rfl, hb1⟩
      obtain ⟨⟨k0, k1, k2, k3⟩, hbw, hz1⟩ := KB.out w1 hb1
      have HBW := hid hbw
      have KE : Hid (∀ W, Below w1.heap.size w1 W → (W.cell? ⟨w.heap.size, 0, none⟩ = some (.int .i64 tk) ∧ W.cell? ⟨w.heap.size, 1, none⟩ = some (.string tx) ∧ W.cell? ⟨w.heap.size, 2, none⟩ = some (.int .i64 tc) ∧ W.cell? ⟨w.heap.size, 3, none⟩ = some (.slice A ts.length cap)) ∧ Below w.heap.size w W ∧ w.heap.size < W.heap.size) := fun W h => KB.out W (hb1.trans (h.mono hb1.size))
      clear hb1 hbw KB
      go_wp2_with fail
      refine (CF.out _ HBW.out).mono ?_
      rintro e w2 ⟨rfl, hb2⟩
      have HB2 : Hid (Below w1.heap.size w1 w2) := hid hb2
      clear hb2 k0 k1 k2 k3 hz1 HBW
      obtain ⟨⟨k0, k1, k2, k3⟩, hbw, hz1⟩ := KE.out w2 HB2.out
      have HBW := hid hbw
      clear hbw CF
      go_wp2_with fail
      refine (C1.out _ HBW.out).mono ?_
      rintro e w3 ⟨hb3, v1, rfl, hi1⟩
      have HB3 := hid (bl_call HB2.out hb3)
      obtain ⟨B1, d1, rfl⟩ := SliceR.form hi1
      have HI1 := hid hi1
      clear hi1
      clear hb3 k0 k1 k2 k3 hz1 HBW
      obtain ⟨⟨k0, k1, k2, k3⟩, hbw, hz1⟩ := KE.out w3 HB3.out
      have HBW := hid hbw
      clear hbw
      go_wp2_with fail
      refine (C2.out _ HBW.out).mono ?_
      rintro e w4 ⟨hb4, v2, rfl, hi2⟩
      have HB4 := hid (bl_call HB3.out hb4)
      obtain ⟨B2, d2, rfl⟩ := SliceR.form hi2
      have HI2 := hid hi2
      clear hi2
      clear hb4 k0 k1 k2 k3 hz1 HBW
      obtain ⟨⟨k0, k1, k2, k3⟩, hbw, hz1⟩ := KE.out w4 HB4.out
      have HBW := hid hbw
      clear hbw
      go_wp2_with fail
      go_ret
      exact ⟨rfl, HBW.out⟩
end Go.Proofs.Ytognlokeadlpbaa
