/- The plain law of layer 13: the program's image is the reference's. -/
import Derived.Test.YteckkamlaibjbaaMapAll
import Derived.Test.YteckkamlaibjbaaRefAll
import Derived.Test.YteckkamlaibjbaaRef13L
set_option linter.unusedVariables false
set_option linter.unusedSimpArgs false
namespace Go.Proofs.Yteckkamlaibjbaa
open Go.RowKit

set_option maxHeartbeats 1000000 in
theorem image_flat (op : OpD) (x : Int) (after : Bool) : (imageS ⟨op, op.nodes.length, x, false, 0, []⟩ after).1 = offsetS op x after := by
  obtain ⟨kind, row, at_, n, nodes, slot, old, text⟩ := op
  generalize hK : (nodes.length : Int) = K
  have hK0 : 0 ≤ K := by omega
  unfold imageS insertS removeS wrapS unwrapS behindS offsetS
  simp only [hK]
  by_cases h1 : kind = 1
  · subst h1; simp; rcases Int.lt_trichotomy x at_ with h | h | h <;> cases after <;> (repeat' split) <;> first | rfl | (exfalso; omega) | (simp_all; done) | (simp_all; omega)
  by_cases h2 : kind = 2
  · subst h2; simp <;> (repeat' split) <;> first | rfl | (exfalso; omega) | (simp_all; done) | (simp_all; omega)
  by_cases h3 : kind = 3
  · subst h3; simp; cases after <;> (repeat' split) <;> first | rfl | (exfalso; omega) | (simp_all; done) | (simp_all; omega)
  by_cases h4 : kind = 4
  · subst h4; simp <;> (repeat' split) <;> first | rfl | (exfalso; omega) | (simp_all; done) | (simp_all; omega)
  simp [h1, h2, h3, h4]

set_option maxHeartbeats 1000000 in
theorem image_deep (op : OpD) (x y : Int) (r : List Int) (after : Bool) : (imageS ⟨op, op.nodes.length, x, true, y, r⟩ after).1 = insideS op x y r := by
  obtain ⟨kind, row, at_, n, nodes, slot, old, text⟩ := op
  generalize hK : (nodes.length : Int) = K
  have hK0 : 0 ≤ K := by omega
  unfold imageS insertS removeS wrapS unwrapS behindS insideS
  simp only [hK]
  by_cases h1 : kind = 1
  · subst h1; simp <;> (repeat' split) <;> first | rfl | (exfalso; omega) | (simp_all; done) | (simp_all; omega)
  by_cases h2 : kind = 2
  · subst h2; simp <;> (repeat' split) <;> first | rfl | (exfalso; omega) | (simp_all; done) | (simp_all; omega)
  by_cases h3 : kind = 3
  · subst h3; simp <;> (repeat' split) <;> first | rfl | (exfalso; omega) | (simp_all; done) | (simp_all; omega)
  by_cases h4 : kind = 4
  · subst h4; simp <;> (repeat' split) <;> first | rfl | (exfalso; omega) | (simp_all; done) | (simp_all; omega)
  simp [h1, h2, h3, h4]

theorem map_eq (op : OpD) (pos : List Int) (after : Bool) : mapS op pos after = refMapS op pos after := by
  unfold mapS refMapS
  split
  · rename_i hw
    obtain ⟨h1, h2, h3⟩ := within_iff.1 hw
    unfold placeOf
    split
    · rename_i h
      rw [if_neg (by omega), image_deep]
    · rename_i h
      rw [if_pos (by omega), image_flat]
  · rfl

theorem mapAll_eq (ops : List OpD) : ∀ (pos : List Int) (after : Bool), mapAllS ops pos after = refMapAllS ops pos after := by
  induction ops with
  | nil => intro pos after; rfl
  | cons op ops ih => intro pos after; show mapAllS ops _ after = refMapAllS ops _ after; rw [map_eq, ih]

set_option maxHeartbeats 1000000 in
theorem lost_eq (op : OpD) (pos : List Int) : lostS op pos = refLostS op pos := by
  unfold lostS refLostS
  split
  · rename_i hw
    obtain ⟨h1, h2, h3⟩ := within_iff.1 hw
    unfold placeOf
    generalize pos.getD op.row.length 0 = x
    generalize pos.getD (op.row.length + 1) 0 = y
    obtain ⟨kind, row, at_, n, nodes, slot, old, text⟩ := op
    simp only at *
    generalize hK : (nodes.length : Int) = K
    have hK0 : 0 ≤ K := by omega
    have hll : row.length + 1 < pos.length ∨ pos.length = row.length + 1 := by omega
    rcases hll with hl | hl
    · have hl' : ¬ pos.length = row.length + 1 := by omega
      rw [if_pos hl, if_neg hl']
      unfold imageS insertS removeS wrapS unwrapS
      simp only [hK]
      by_cases k1 : kind = 1
      · subst k1; simp
      by_cases k2 : kind = 2
      · subst k2; simp <;> (repeat' split) <;> first | rfl | (exfalso; omega) | (simp_all; done) | (simp_all; omega)
      by_cases k3 : kind = 3
      · subst k3; simp
      by_cases k4 : kind = 4
      · subst k4; simp <;> (repeat' split) <;> first | rfl | (exfalso; omega) | (simp_all; done) | (simp_all; omega)
      simp [k1, k2, k3, k4]
    · rw [if_neg (by omega), if_pos hl]
      unfold imageS insertS removeS wrapS unwrapS
      simp only [hK]
      by_cases k1 : kind = 1
      · subst k1; simp
      by_cases k2 : kind = 2
      · subst k2; simp <;> (repeat' split) <;> first | rfl | (exfalso; omega) | (simp_all; done) | (simp_all; omega)
      by_cases k3 : kind = 3
      · subst k3; simp
      by_cases k4 : kind = 4
      · subst k4; simp <;> (repeat' split) <;> first | rfl | (exfalso; omega) | (simp_all; done) | (simp_all; omega)
      simp [k1, k2, k3, k4]
  · rfl
end Go.Proofs.Yteckkamlaibjbaa
