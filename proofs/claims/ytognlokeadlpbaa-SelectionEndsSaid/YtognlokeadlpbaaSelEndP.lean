/- Plain: the ends of a part. -/
import Derived.Test.YtognlokeadlpbaaItm
import Derived.Test.YtognlokeadlpbaaSel3
set_option linter.unusedVariables false
set_option linter.unusedSimpArgs false
namespace Go.Proofs.Ytognlokeadlpbaa
open Go.RowKit

theorem row_pos : (t : Tree) → (p : List Int) → (t' : Tree) → (x : Int) → rowS t p = some t' → 0 ≤ x → x ≤ t'.kids.length → posIn t (p ++ [x]) = true
  | t, [], t', x, h, h0, h1 => by
    simp [rowS] at h
    subst h
    simp [posIn, h0, h1]
  | t, [_], t', x, h, _, _ => by simp [rowS] at h
  | t, i :: k :: p, t', x, h, h0, h1 => by
    rw [rowS] at h
    split at h
    · rename_i hi
      split at h
      · rename_i hk
        show posIn t (i :: k :: (p ++ [x])) = true
        rw [posIn, dif_pos hi, dif_pos hk]
        exact row_pos _ p t' x h h0 h1
      · cases h
    · cases h
theorem comS_two (i k : Int) (a b : List Int) (ha : a ≠ []) (hb : b ≠ []) : comS (i :: k :: a) (i :: k :: b) = comS a b + 2 := by
  obtain ⟨x, a, rfl⟩ := List.exists_cons_of_ne_nil ha
  obtain ⟨y, b, rfl⟩ := List.exists_cons_of_ne_nil hb
  rw [comS, if_pos ⟨rfl, rfl⟩]
theorem row_com : (t : Tree) → (p : List Int) → (t' : Tree) → (x y : Int) → rowS t p = some t' → comS (p ++ [x]) (p ++ [y]) = p.length
  | t, [], t', x, y, h => by simp [comS]
  | t, [_], t', x, y, h => by simp [rowS] at h
  | t, i :: k :: p, t', x, y, h => by
    rw [rowS] at h
    split at h
    · split at h
      · show comS (i :: k :: (p ++ [x])) (i :: k :: (p ++ [y])) = _
        rw [comS_two _ _ _ _ (by simp) (by simp), row_com _ p t' x y h]
        rfl
      · cases h
    · cases h
theorem row_bt {t : Tree} {p : List Int} {t' : Tree} {x y : Int} (h : rowS t p = some t') (hxy : x ≤ y) : btS (p ++ [x]) (p ++ [y]) = (p, x, y) := by
  unfold btS extS
  rw [row_com t p t' x y h]
  simp
  omega
theorem ends_plain {t : Tree} {p : List Int} {x y : Int} {L : List Tree} {er : Int} (h : itemsR t p x y = (L, er)) :
    (er ≠ 0 → L = []) ∧ (er = 0 → validS t = true ∧ posIn t (p ++ [x]) = true ∧ posIn t (p ++ [y]) = true ∧ btS (p ++ [x]) (p ++ [y]) = (p, x, y) ∧ (L.length : Int) = y - x ∧ 0 ≤ x ∧ x ≤ y) := by
  unfold itemsR at h
  split at h
  · rename_i h1
    injection h with e1 e2
    exact ⟨fun _ => e1.symm, fun h2 => absurd (e2.trans h2) h1⟩
  · rename_i h1
    split at h
    · injection h with e1 e2
      exact ⟨fun _ => e1.symm, fun h2 => by omega⟩
    · rename_i h2
      injection h with e1 e2
      refine ⟨fun h3 => absurd e2.symm h3, fun _ => ?_⟩
      have h4 : (rowRes t p).2 = 0 := Decidable.byContradiction h1
      unfold rowRes at h4 h2 e1
      split at h4
      · simp at h4
      · rename_i h5
        rw [if_neg h5] at h2 e1
        split at h4
        · simp at h4
        · rename_i h6
          rw [if_neg h6] at h2 e1
          have hr := find_row t p
          rw [if_pos (by simpa using h6)] at hr
          simp only at h2 e1
          have hl : (L.length : Int) = y - x := by rw [← e1]; simp; omega
          exact ⟨by simpa using h5, row_pos t p _ x hr (by omega) (by omega), row_pos t p _ y hr (by omega) (by omega), row_bt hr (by omega), hl, by omega, by omega⟩
end Go.Proofs.Ytognlokeadlpbaa
