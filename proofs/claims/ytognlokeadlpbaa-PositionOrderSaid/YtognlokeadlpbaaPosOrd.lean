/- vinculumlaw10.PositionOrder: the walk. -/
import Derived.Test.YtognlokeadlpbaaAwk10
set_option linter.unusedVariables false
set_option linter.unusedSimpArgs false
set_option maxRecDepth 100000
namespace Go.Proofs.Ytognlokeadlpbaa
open Go.RowKit

theorem ord_cases (a b c : List Int) : cmpS a b = 1 ∨ ((cmpS a b = -1 ∨ cmpS a b = 0) ∧ cmpS b c = 1) ∨ (cmpS a b = -1 ∧ cmpS b c = -1 ∧ cmpS a c = -1) ∨ (cmpS a b = -1 ∧ cmpS b c = 0 ∧ cmpS a c = -1) ∨ (cmpS a b = 0 ∧ cmpS b c = -1 ∧ cmpS a c = -1) ∨ (cmpS a b = 0 ∧ cmpS b c = 0 ∧ cmpS a c = 0) := by
  have h1 := cmpS_range a b
  have h2 := cmpS_range b c
  have h3 := cmpS_range a c
  have h4 := cmpS_trans a b c
  have h5 : cmpS a b = 0 → cmpS b c = 0 → cmpS a c = 0 := fun e1 e2 => by
    rw [cmpS_zero] at e1 e2 ⊢; rw [e1, e2]
  generalize cmpS a b = x at *
  generalize cmpS b c = y at *
  generalize cmpS a c = z at *
  rcases h1 with rfl | rfl | rfl <;> rcases h2 with rfl | rfl | rfl <;> rcases h3 with rfl | rfl | rfl <;> simp_all

set_option maxHeartbeats 4000000 in
theorem posOrd_walk (a b c : List Int) (Aa Ab Ac : Option Addr) (ca cb cc : Nat) (w : World) (ha : IntsR w (Lt w.heap.size) a (.slice Aa a.length ca)) (hb : IntsR w (Lt w.heap.size) b (.slice Ab b.length cb)) (hc : IntsR w (Lt w.heap.size) c (.slice Ac c.length cc)) :
    Calls Try.prog 6 #[.slice Aa a.length ca, .slice Ab b.length cb, .slice Ac c.length cc] w fun e w' => e = .returned (.bool true) ∧ Below w.heap.size w w' := by
  have hl1 : a.length ≤ 9223372036854775807 := by have := ha.lens; unfold maxLen at this; omega
  have hl2 : b.length ≤ 9223372036854775807 := by have := hb.lens; unfold maxLen at this; omega
  have hl3 : c.length ≤ 9223372036854775807 := by have := hc.lens; unfold maxLen at this; omega
  by_cases hfew : a.length ≤ 60 ∧ b.length ≤ 60 ∧ c.length ≤ 60
  rotate_left
  · have hq : (¬ a.length ≤ 60) ∨ (a.length ≤ 60 ∧ ¬ b.length ≤ 60) ∨ (a.length ≤ 60 ∧ b.length ≤ 60 ∧ ¬ c.length ≤ 60) := by omega
    clear ha hb hc hfew
    rcases hq with h1 | ⟨h1, h2⟩ | ⟨h1, h2, h3⟩
    · have d1 : decide ((60 : Int) < (a.length : Int)) = true := by simp; omega
      clear h1
      go_enter Try.func6, Try.ntmps6
      go_wp2_with fail
      refine (awake10_any _).mono ?_
      rintro e w1 ⟨rfl, hb1⟩
      have HB1 := hid hb1
      clear hb1
      go_wp2_with fail
      refine (awake10_any _).mono ?_
      rintro e w2 ⟨rfl, hb2⟩
      have HB2 := hid (bl_call HB1.out hb2)
      clear hb2
      go_wp2_with fail
      go_ret
      exact ⟨rfl, HB2.out⟩
    · have d1 : decide ((60 : Int) < (a.length : Int)) = false := by simp; omega
      have d2 : decide ((60 : Int) < (b.length : Int)) = true := by simp; omega
      clear h1 h2
      go_enter Try.func6, Try.ntmps6
      go_wp2_with fail
      refine (awake10_any _).mono ?_
      rintro e w1 ⟨rfl, hb1⟩
      have HB1 := hid hb1
      clear hb1
      go_wp2_with fail
      refine (awake10_any _).mono ?_
      rintro e w2 ⟨rfl, hb2⟩
      have HB2 := hid (bl_call HB1.out hb2)
      clear hb2
      go_wp2_with fail
      go_ret
      exact ⟨rfl, HB2.out⟩
    · have d1 : decide ((60 : Int) < (a.length : Int)) = false := by simp; omega
      have d2 : decide ((60 : Int) < (b.length : Int)) = false := by simp; omega
      have d3 : decide ((60 : Int) < (c.length : Int)) = true := by simp; omega
      clear h1 h2 h3
      go_enter Try.func6, Try.ntmps6
      go_wp2_with fail
      refine (awake10_any _).mono ?_
      rintro e w1 ⟨rfl, hb1⟩
      have HB1 := hid hb1
      clear hb1
      go_wp2_with fail
      refine (awake10_any _).mono ?_
      rintro e w2 ⟨rfl, hb2⟩
      have HB2 := hid (bl_call HB1.out hb2)
      clear hb2
      go_wp2_with fail
      go_ret
      exact ⟨rfl, HB2.out⟩
  have d1 : decide ((60 : Int) < (a.length : Int)) = false := by simp; omega
  have d2 : decide ((60 : Int) < (b.length : Int)) = false := by simp; omega
  have d3 : decide ((60 : Int) < (c.length : Int)) = false := by simp; omega
  have C1 : Hid (∀ W, Below w.heap.size w W → Calls Try.prog 32 #[.slice Aa a.length ca, .slice Ab b.length cb] W fun e w' => e = .returned (.int .i64 (cmpS a b)) ∧ W = w') := fun W h => pcmp_q a b W _ _ _ _ (ha.below h h.size) (hb.below h h.size)
  have C2 : Hid (∀ W, Below w.heap.size w W → Calls Try.prog 32 #[.slice Ab b.length cb, .slice Ac c.length cc] W fun e w' => e = .returned (.int .i64 (cmpS b c)) ∧ W = w') := fun W h => pcmp_q b c W _ _ _ _ (hb.below h h.size) (hc.below h h.size)
  have C3 : Hid (∀ W, Below w.heap.size w W → Calls Try.prog 32 #[.slice Aa a.length ca, .slice Ac c.length cc] W fun e w' => e = .returned (.int .i64 (cmpS a c)) ∧ W = w') := fun W h => pcmp_q a c W _ _ _ _ (ha.below h h.size) (hc.below h h.size)
  have C4 : Hid (∀ W, Below w.heap.size w W → Calls Try.prog 33 #[.slice Aa a.length ca, .slice Ab b.length cb] W fun e w' => e = .returned (.int .i64 (cmpS a b)) ∧ ∃ n, w' = W.drewN n) := fun W h => compare_q a b W _ _ _ _ (ha.below h h.size) (hb.below h h.size)
  have C5 : Hid (∀ W, Below w.heap.size w W → Calls Try.prog 32 #[.slice Ab b.length cb, .slice Aa a.length ca] W fun e w' => e = .returned (.int .i64 (-cmpS a b)) ∧ W = w') := fun W h => by
    rw [← cmpS_swap]; exact pcmp_q b a W _ _ _ _ (hb.below h h.size) (ha.below h h.size)
  have C6 : Hid (∀ W, Below w.heap.size w W → Calls Try.prog 32 #[.slice Aa a.length ca, .slice Aa a.length ca] W fun e w' => e = .returned (.int .i64 0) ∧ W = w') := fun W h => by
    have := pcmp_q a a W _ _ _ _ (ha.below h h.size) (ha.below h h.size)
    rwa [cmpS_self] at this
  have hcase := ord_cases a b c
  have rx := cmpS_range a b
  have ry := cmpS_range b c
  have rz := cmpS_range a c
  generalize cmpS a b = x at *
  generalize cmpS b c = y at *
  generalize cmpS a c = z at *
  clear ha hb hc hfew
  have ry1 : -1 ≤ y ∧ y ≤ 1 := by omega
  have rz1 : -1 ≤ z ∧ z ≤ 1 := by omega
  obtain ⟨ry1, ry2⟩ := ry1
  obtain ⟨rz1, rz2⟩ := rz1
  clear rx ry rz
  rcases hcase with rfl | ⟨rfl | rfl, rfl⟩ | ⟨rfl, rfl, rfl⟩ | ⟨rfl, rfl, rfl⟩ | ⟨rfl, rfl, rfl⟩ | ⟨rfl, rfl, rfl⟩
  all_goals
    go_enter Try.func6, Try.ntmps6
    go_wp2_with fail
    refine (awake10_any _).mono ?_
    rintro e w1 ⟨rfl, hb1⟩
    have HB1 := hid hb1
    clear hb1
    go_wp2_with (first
      | (go_at_call 32; with_reducible refine (C1.out _ HB1.out).mono ?_; rintro e w' ⟨rfl, rfl⟩)
      | (go_at_call 32; with_reducible refine (C2.out _ HB1.out).mono ?_; rintro e w' ⟨rfl, rfl⟩)
      | (go_at_call 32; with_reducible refine (C3.out _ HB1.out).mono ?_; rintro e w' ⟨rfl, rfl⟩)
      | (go_at_call 33; with_reducible refine (C4.out _ HB1.out).mono ?_; rintro e w' ⟨rfl, n4, rfl⟩)
      | (go_at_call 32; with_reducible refine (C5.out _ (bl_dn HB1.out)).mono ?_; rintro e w' ⟨rfl, rfl⟩)
      | (go_at_call 32; with_reducible refine (C6.out _ (bl_dn HB1.out)).mono ?_; rintro e w' ⟨rfl, rfl⟩))
    go_ret
    exact ⟨rfl, bl_dn HB1.out⟩
end Go.Proofs.Ytognlokeadlpbaa
