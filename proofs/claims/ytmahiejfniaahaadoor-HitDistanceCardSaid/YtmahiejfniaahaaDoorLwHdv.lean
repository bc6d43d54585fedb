/- HitDistance. Written by wip/genaw41.py. -/
import Derived.Test.YtmahiejfniaahaaDoorAw41v
import Derived.Laws.EntriesVeiled
import Derived.Deep.RegionHeld3
set_option linter.unusedVariables false
set_option linter.unusedSimpArgs false
set_option maxRecDepth 100000
namespace Go.Proofs.YtmahiejfniaahaaDoor
open Go.RowKit

theorem run_max5 (ts : Array TypeId) (t : TypeId) (a b c d e : Int) (w : World) : (Builtin.max_ ts t #[.int .i64 a, .int .i64 b, .int .i64 c, .int .i64 d, .int .i64 e]).run Tryd.prog w = .ok (.int .i64 (max (max (max (max a b) c) d) e)) w := by
  have h : ∀ x y : Int, (if x < y then y else x) = max x y := fun x y => by split <;> omega
  simp [Builtin.max_, Builtin.max2, h]
theorem run_min5 (ts : Array TypeId) (t : TypeId) (a b c d e : Int) (w : World) : (Builtin.min_ ts t #[.int .i64 a, .int .i64 b, .int .i64 c, .int .i64 d, .int .i64 e]).run Tryd.prog w = .ok (.int .i64 (min (min (min (min a b) c) d) e)) w := by
  have h : ∀ x y : Int, (if y < x then y else x) = min x y := fun x y => by split <;> omega
  simp [Builtin.min_, Builtin.min2, h]
set_option maxHeartbeats 8000000 in
theorem HitDistance_walk (c0 c1 c2 a0 a1 : Int) (w : World) (htab : TabOk w) :
    Calls Tryd.prog 4 #[.agg #[.int .i64 c0, .int .i64 c1, .int .i64 c2], .agg #[.int .i64 a0, .int .i64 a1]] w fun e w' => e = .returned (.bool true) ∧ Below w.heap.size w w' := by
  have HTAB := hid htab
  have CAW : Hid (∀ W, Below w.heap.size w W → Calls Tryd.prog 13 #[] W fun e w' => e = .returned (.bool true) ∧ Below W.heap.size W w') := fun W hW => awake41_any W (HTAB.out.below hW)
  obtain ⟨W0, hW0⟩ : ∃ W0, (w.alloc (.cells #[.int .i64 c0, .int .i64 c1, .int .i64 c2] 45)).alloc (.cells #[.int .i64 a0, .int .i64 a1] 46) = W0 := ⟨_, rfl⟩
  have HB0 : Hid (Below w.heap.size w W0) := by show Below _ _ _; rw [← hW0]; exact bAl (bNew _ _) _
  have KX : Hid (∀ w', Below W0.heap.size W0 w' → w'.cell? ⟨w.heap.size, 0, none⟩ = some (.int .i64 c0) ∧ w'.cell? ⟨w.heap.size, 1, none⟩ = some (.int .i64 c1) ∧ w'.cell? ⟨w.heap.size, 2, none⟩ = some (.int .i64 c2) ∧ w'.cell? ⟨w.heap.size + 1, 0, none⟩ = some (.int .i64 a0) ∧ w'.cell? ⟨w.heap.size + 1, 1, none⟩ = some (.int .i64 a1)) := fun W hW => by
    have hz0 : W0.heap.size = w.heap.size + 2 := by rw [← hW0]; simp
    have h1 : BoxL W0 w.heap.size 0 [.int .i64 c0, .int .i64 c1, .int .i64 c2] := by rw [← hW0]; exact (BoxL.new _ _ _ _ rfl _ rfl).below (bNew _ _) (by simp)
    have h2 : BoxL W0 (w.heap.size + 1) 0 [.int .i64 a0, .int .i64 a1] := by rw [← hW0]; exact BoxL.new _ _ _ _ (by simp) _ rfl
    have h3 := h1.below hW (by omega)
    have h4 := h2.below hW (by omega)
    have r0 := h3 0 _ rfl
    have r1 := h3 1 _ rfl
    have r2 := h3 2 _ rfl
    have r3 := h4 0 _ rfl
    have r4 := h4 1 _ rfl
    simp only [Nat.zero_add] at r0 r1 r2 r3 r4
    exact ⟨r0, r1, r2, r3, r4⟩
  have HMX := fun ts t => run_max5 ts t c0 c1 c2 a0 a1
  have HMN := fun ts t => run_min5 ts t c0 c1 c2 a0 a1
  obtain ⟨x4, hx4⟩ : ∃ x, max (max (max (max c0 c1) c2) a0) a1 = x := ⟨_, rfl⟩
  obtain ⟨y4, hy4⟩ : ∃ x, min (min (min (min c0 c1) c2) a0) a1 = x := ⟨_, rfl⟩
  rw [hx4] at HMX
  rw [hy4] at HMN
  have HBD : Hid (x4 ≤ 1073741824 → -1073741824 ≤ y4 → (CarD.mk [] c0 c1 c2).Sm ∧ lenOk a0 = true ∧ lenOk a1 = true) := fun h1 h2 => by
    refine ⟨⟨?_, ?_, ?_⟩, ?_, ?_⟩
    · show Sm c0; unfold Sm; omega
    · show Sm c1; unfold Sm; omega
    · show Sm c2; unfold Sm; omega
    · simp only [lenOk, decide_eq_true_eq]; omega
    · simp only [lenOk, decide_eq_true_eq]; omega
  obtain ⟨p0, p1, p2, q0, q1⟩ := KX.out W0 (Below.refl _ _)
  clear htab hx4 hy4
  by_cases h1 : 1073741824 < x4
  · have i1 : decide (1073741824 < x4) = true := decide_eq_true h1
    clear h1 HBD
    go_enter Tryd.func4, Tryd.ntmps4
    go_wp2_with fail
    clear hW0
    refine (CAW.out _ HB0.out).mono ?_
    rintro e0 w1 ⟨rfl, hb1⟩
    have HT1 := hid hb1
    clear hb1 p0 p1 p2 q0 q1
    obtain ⟨p0, p1, p2, q0, q1⟩ := KX.out w1 HT1.out
    go_wp2_with fail
    go_ret
    exact ⟨rfl, bCl HB0.out HT1.out⟩
  · have i1 : decide (1073741824 < x4) = false := decide_eq_false h1
    by_cases h2 : y4 < -1073741824
    · have i2 : decide (y4 < -1073741824) = true := decide_eq_true h2
      clear h1 h2 HBD
      go_enter Tryd.func4, Tryd.ntmps4
      go_wp2_with fail
      clear hW0
      refine (CAW.out _ HB0.out).mono ?_
      rintro e0 w1 ⟨rfl, hb1⟩
      have HT1 := hid hb1
      clear hb1 p0 p1 p2 q0 q1
      obtain ⟨p0, p1, p2, q0, q1⟩ := KX.out w1 HT1.out
      go_wp2_with fail
      go_ret
      exact ⟨rfl, bCl HB0.out HT1.out⟩
    · have i2 : decide (y4 < -1073741824) = false := decide_eq_false h2
      obtain ⟨hs, hx, hy⟩ := HBD.out (by omega) (by omega)
      have CD := hid (fun W => hdist_any (CarD.mk [] c0 c1 c2) a0 a1 none 0 0 W hs hx hy)
      have CR := hid (fun W => rdist_any (CarD.mk [] c0 c1 c2) a0 a1 none 0 0 W hs hx hy)
      simp only at CD CR
      generalize distS (CarD.mk [] c0 c1 c2) a0 a1 = dd at *
      clear h1 h2 HBD hs hx hy
      go_enter Tryd.func4, Tryd.ntmps4
      go_wp2_with fail
      clear hW0
      refine (CAW.out _ HB0.out).mono ?_
      rintro e0 w1 ⟨rfl, hb1⟩
      have HT1 := hid hb1
      clear hb1 p0 p1 p2 q0 q1
      obtain ⟨p0, p1, p2, q0, q1⟩ := KX.out w1 HT1.out
      go_wp2_with fail
      go_region_held3 (fun w' => w'.cell? ⟨w.heap.size, 0, none⟩ = some (.int .i64 c0) ∧ w'.cell? ⟨w.heap.size, 1, none⟩ = some (.int .i64 c1) ∧ w'.cell? ⟨w.heap.size, 2, none⟩ = some (.int .i64 c2) ∧ w'.cell? ⟨w.heap.size + 1, 0, none⟩ = some (.int .i64 a0) ∧ w'.cell? ⟨w.heap.size + 1, 1, none⟩ = some (.int .i64 a1)) (go_keep) (first
        | (go_at_call 15; (with_reducible refine (CR.out _).mono ?_); rintro r0 we ⟨rfl, hb0⟩; have HEB : Hid (Below W0.heap.size W0 we) := hid (bCl (bCl HBd.out (show Below wd.heap.size wd _ by (repeat (first | with_reducible exact Below.refl _ _ | with_reducible refine Below.drew ?_ | with_reducible refine bAl ?_ _ | fail)))) hb0); clear hb0; obtain ⟨p0, p1, p2, q0, q1⟩ := KX.out _ HEB.out)
        | (go_at_call 14; (with_reducible refine (CD.out _).mono ?_); rintro r0 wd ⟨rfl, hb0⟩; have HEB : Hid (Below W0.heap.size W0 wd) := hid (bCl (bCl HBe.out (show Below we.heap.size we _ by (repeat (first | with_reducible exact Below.refl _ _ | with_reducible refine Below.drew ?_ | with_reducible refine bAl ?_ _ | fail)))) hb0); clear hb0; obtain ⟨p0, p1, p2, q0, q1⟩ := KX.out _ HEB.out)
        | (go_at_call 14; (with_reducible refine (CD.out _).mono ?_); rintro r0 wd ⟨rfl, hb0⟩; have HBd : Hid (Below W0.heap.size W0 wd) := hid (bCl (bCl HT1.out (show Below w1.heap.size w1 _ by (repeat (first | with_reducible exact Below.refl _ _ | with_reducible refine Below.drew ?_ | with_reducible refine bAl ?_ _ | fail)))) hb0); clear hb0; obtain ⟨p0, p1, p2, q0, q1⟩ := KX.out _ HBd.out)
        | (go_at_call 15; (with_reducible refine (CR.out _).mono ?_); rintro r0 we ⟨rfl, hb0⟩; have HBe : Hid (Below W0.heap.size W0 we) := hid (bCl (bCl HT1.out (show Below w1.heap.size w1 _ by (repeat (first | with_reducible exact Below.refl _ _ | with_reducible refine Below.drew ?_ | with_reducible refine bAl ?_ _ | fail)))) hb0); clear hb0; obtain ⟨p0, p1, p2, q0, q1⟩ := KX.out _ HBe.out)
        | fail)
      all_goals
        go_wp2_with fail
        go_ret
        exact ⟨by first | done | rfl | simp, (by first | exact bCl HB0.out HEB.out | exact (bCl HB0.out HEB.out).drew)⟩
end Go.Proofs.YtmahiejfniaahaaDoor
