/- Cuts of slices: one run equation for every world, and what the cut reads as; the new address is a letter. -/
import Derived.Test.YteckkamlaibjbaaBase
set_option linter.unusedVariables false
set_option linter.unusedSimpArgs false
set_option maxRecDepth 100000
namespace Go.Proofs.Yteckkamlaibjbaa
open Go.RowKit

section
variable {α : Type} (E : Enc α) {t e : TypeId} (ht : Try.prog.underlying t = some (.slice e)) (hs : ∀ w, (Go.sizeOf e).run Try.prog w = .ok E.size w)
include ht hs
theorem cut_l (A : Option Addr) (n c : Nat) (l : Int) (k : Nat) (hk : l = k) (hl : k ≤ n) :
    ∃ A', (∀ w, (Instr.slice t (.slice A n c) (some (.int .i64 l)) none none).run Try.prog w = .ok (.slice A' (n - k) (c - k)) w) ∧
      (∀ w S (xs : List α), SliceR E w S xs (.slice A n c) → SliceR E w S (xs.drop k) (.slice A' (n - k) (c - k))) := by
  subst hk
  have he : Try.prog.elem t = e := by simp [Program.elem, ht]
  refine ⟨if c = k then A else A.map (·.add (k * E.size)), fun w => ?_, fun w S xs h => ?_⟩
  · rw [run_slice_l w t A n c (by rw [he]; exact ht) .i64 k (by omega) (by omega), he, hs w]
    simp [Result.andThen, sliced]
  · have hx : xs.length = n := by obtain ⟨A', cap, cs, e, _⟩ := h; injection e with _ e2; exact e2.symm
    have := h.cut k n hl (Nat.le_refl _)
    rwa [List.take_of_length_le (by omega)] at this
theorem cut_h (A : Option Addr) (n c : Nat) (l : Int) (k : Nat) (hk : l = k) (hl : k ≤ n) (hc : n ≤ c) :
    ∃ A', (∀ w, (Instr.slice t (.slice A n c) none (some (.int .i64 l)) none).run Try.prog w = .ok (.slice A' k c) w) ∧
      (∀ w S (xs : List α), SliceR E w S xs (.slice A n c) → SliceR E w S (xs.take k) (.slice A' k c)) := by
  subst hk
  have he : Try.prog.elem t = e := by simp [Program.elem, ht]
  refine ⟨if c = 0 then A else A.map (·.add (0 * E.size)), fun w => ?_, fun w S xs h => ?_⟩
  · rw [run_slice_h w t A n c (by rw [he]; exact ht) .i64 k (by omega) (by omega), he, hs w]
    simp [Result.andThen, sliced]
  · have := h.cut 0 k (Nat.zero_le _) hl
    simpa using this
theorem cut_lh (A : Option Addr) (n c : Nat) (l h : Int) (i j : Nat) (hi : l = i) (hj : h = j) (hl : i ≤ j) (hh : j ≤ n) (hc : n ≤ c) :
    ∃ A', (∀ w, (Instr.slice t (.slice A n c) (some (.int .i64 l)) (some (.int .i64 h)) none).run Try.prog w = .ok (.slice A' (j - i) (c - i)) w) ∧
      (∀ w S (xs : List α), SliceR E w S xs (.slice A n c) → SliceR E w S ((xs.take j).drop i) (.slice A' (j - i) (c - i))) := by
  subst hi hj
  have he : Try.prog.elem t = e := by simp [Program.elem, ht]
  refine ⟨if c = i then A else A.map (·.add (i * E.size)), fun w => ?_, fun w S xs h => h.cut i j hl hh⟩
  rw [run_slice_lh w t A n c (by rw [he]; exact ht) .i64 .i64 i j (by omega) (by omega) (by omega), he, hs w]
  simp [Result.andThen, sliced]
end

theorem size_int (w : World) : (Go.sizeOf 3).run Try.prog w = .ok intE.size w := by kernel_rfl
theorem size_node (w : World) : (Go.sizeOf 24).run Try.prog w = .ok treeE.size w := by kernel_rfl
end Go.Proofs.Yteckkamlaibjbaa
