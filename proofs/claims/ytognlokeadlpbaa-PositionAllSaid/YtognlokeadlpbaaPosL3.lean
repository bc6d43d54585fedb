/- Plain: the last position; what is ahead of what is behind. -/
import Derived.Test.YtognlokeadlpbaaPosL2
set_option linter.unusedVariables false
set_option linter.unusedSimpArgs false
namespace Go.Proofs.Ytognlokeadlpbaa

theorem itemsS_last (path : List Int) : ∀ (ts : List Tree) (i : Nat), (itemsS path i ts).getLast? = some (path ++ [((i + ts.length : Nat) : Int)])
  | [], i => by simp [itemsS]
  | t :: ts, i => by
    rw [itemsS_cons]
    have h := itemsS_last path ts (i + 1)
    have h0 : itemsS path (i + 1) ts ≠ [] := fun e => by rw [e] at h; cases h
    have e : (path ++ [(i : Int)]) :: (slotsS path i 0 t.kids ++ itemsS path (i + 1) ts) = ((path ++ [(i : Int)]) :: slotsS path i 0 t.kids) ++ itemsS path (i + 1) ts := by simp
    rw [e, List.getLast?_append, h]
    simp only [Option.some_or]
    rw [List.length_cons]
    congr 3
    omega
theorem allS_last (t : Tree) : (allS [] t).getLast? = some [(t.kids.length : Int)] := by
  rw [allS_eq, itemsS_last]; simp
theorem allS_first (t : Tree) : (allS [] t)[0]? = some [0] := by
  rw [allS_eq]; cases h : t.kids with
  | nil => simp [itemsS]
  | cons u us => rw [itemsS_cons]; simp
theorem allS_at_last (t : Tree) (h : (allS [] t).length - 1 < (allS [] t).length) : (allS [] t)[(allS [] t).length - 1] = [(t.kids.length : Int)] := by
  have := allS_last t
  rw [List.getLast?_eq_getElem?, List.getElem?_eq_getElem h] at this
  exact Option.some.inj this
theorem allS_at_first (t : Tree) (h : 0 < (allS [] t).length) : (allS [] t)[0] = [0] := by
  have := allS_first t
  rw [List.getElem?_eq_getElem h] at this
  exact Option.some.inj this
theorem allS_pos (t : Tree) : 0 < (allS [] t).length := by rw [allS_len]; exact cntS_pos t

theorem idxS_self {L : List (List Int)} (h : L.Pairwise ltS) {i : Nat} (hi : i < L.length) : idxS L L[i] = some i := by
  unfold idxS
  rw [List.findIdx?_eq_some_iff_getElem]
  refine ⟨hi, by simp [cmpS_self], fun j hj => ?_⟩
  have := List.pairwise_iff_getElem.1 h j i (by omega) hi hj
  unfold ltS at this
  simp; omega

theorem neigh (t : Tree) (p m : List Int) (h : stepR t p 1 = (m, 0)) : ∃ i : Nat, (i : Int) ≤ 2 * countS t ∧ idxR (validS t) (idxS (allS [] t) p) = ((i : Int), 0) ∧ idxR (validS t) (idxS (allS [] t) m) = ((i : Int) + 1, 0) ∧ stepR t m (-1) = (p, 0) ∧ cmpS p m = -1 := by
  unfold stepR at h
  cases hv : validS t
  · rw [hv] at h; simp at h
  · rw [hv] at h
    simp only [if_true] at h
    rcases idx_cases t p with ⟨hp, i, hi, hl, he⟩ | ⟨hp, hi⟩
    · rw [hi] at h
      simp only [stepO] at h
      rw [atL_nat (allS [] t) (i + 1) (by omega)] at h
      rcases Nat.lt_or_ge (i + 1) (allS [] t).length with hlt | hge
      · rw [List.getElem?_eq_getElem hlt] at h
        simp only [if_true, Prod.mk.injEq, and_true] at h
        subst h
        have hs := allS_sorted [] t
        have hi1 := idxS_self hs hlt
        refine ⟨i, ?_, by rw [hi]; rfl, by rw [hi1]; simp [idxR], ?_, ?_⟩
        · have h1 := allS_len [] t
          have h2 := cntS_le t
          omega
        · rw [stepR, hv, hi1]
          simp only [if_true, stepO]
          rw [atL_nat (allS [] t) i (by omega), List.getElem?_eq_getElem hl]
          simp [he]
        · have := List.pairwise_iff_getElem.1 hs i (i + 1) hl hlt (by omega)
          rw [he] at this
          unfold ltS at this
          have := cmpS_range p (allS [] t)[i + 1]
          omega
      · rw [List.getElem?_eq_none hge] at h
        simp at h
    · rw [hi] at h; simp [stepO] at h
theorem neigh_last (t : Tree) (p : List Int) (h : (stepR t p 1).2 = 8) : lastR t = (p, 0) := by
  unfold stepR at h
  cases hv : validS t
  · rw [hv] at h; simp at h
  · rw [hv] at h
    simp only [if_true] at h
    rcases idx_cases t p with ⟨hp, i, hi, hl, he⟩ | ⟨hp, hi⟩
    · rw [hi] at h
      simp only [stepO] at h
      rw [atL_nat (allS [] t) (i + 1) (by omega)] at h
      rcases Nat.lt_or_ge (i + 1) (allS [] t).length with hlt | hge
      · rw [List.getElem?_eq_getElem hlt] at h
        simp at h
      · have hil : i = (allS [] t).length - 1 := by omega
        subst hil
        rw [allS_at_last] at he
        rw [lastR, hv, if_pos rfl, he]
    · rw [hi] at h; simp [stepO] at h
end Go.Proofs.Ytognlokeadlpbaa
