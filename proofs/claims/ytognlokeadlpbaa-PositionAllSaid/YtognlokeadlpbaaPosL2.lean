/- Plain: neighbours and numbers of positions. -/
import Derived.Test.YtognlokeadlpbaaPos5
import Derived.Test.YtognlokeadlpbaaPos6
set_option linter.unusedVariables false
set_option linter.unusedSimpArgs false
namespace Go.Proofs.Ytognlokeadlpbaa

theorem split_lt {L : List (List Int)} (h : L.Pairwise ltS) {i : Nat} (hi : i < L.length) : (∀ a ∈ L.take i, ltS a L[i]) ∧ (∀ b ∈ L.drop (i + 1), ltS L[i] b) := by
  have e : L.take i ++ L[i] :: L.drop (i + 1) = L := by rw [← List.drop_eq_getElem_cons hi, List.take_append_drop]
  rw [← e, List.pairwise_append, List.pairwise_cons] at h
  exact ⟨fun a ha => h.2.2 a ha _ (List.mem_cons_self), h.2.1.1⟩
theorem ltS_ne {a b : List Int} (h : ltS a b) : a ≠ b := fun e => by subst e; unfold ltS at h; rw [cmpS_self] at h; omega
theorem take_at {L : List (List Int)} (h : L.Pairwise ltS) {i : Nat} (hi : i < L.length) {p : List Int} (hp : L[i] = p) : L.takeWhile (fun q => decide (q ≠ p)) = L.take i := by
  subst hp
  obtain ⟨h1, _⟩ := split_lt h hi
  have e : L.takeWhile (fun q => decide (q ≠ L[i])) = (L.take i ++ L[i] :: L.drop (i + 1)).takeWhile (fun q => decide (q ≠ L[i])) := by rw [← List.drop_eq_getElem_cons hi, List.take_append_drop]
  rw [e, List.takeWhile_append_of_pos (fun a ha => by simpa using ltS_ne (h1 a ha)), List.takeWhile_cons_of_neg (by simp), List.append_nil]
theorem next_at {L : List (List Int)} (h : L.Pairwise ltS) {i : Nat} (hi : i < L.length) {p : List Int} (hp : L[i] = p) : nextS L p = L[i + 1]? := by
  subst hp
  obtain ⟨h1, h2⟩ := split_lt h hi
  have e : nextS L L[i] = (L.take i ++ L[i] :: L.drop (i + 1)).find? (fun q => decide (0 < cmpS q L[i])) := by rw [← List.drop_eq_getElem_cons hi, List.take_append_drop]; rfl
  rw [e, List.find?_append, List.find?_eq_none.2 (fun a ha => by have := h1 a ha; unfold ltS at this; simp; omega), List.find?_cons_of_neg (by simp [cmpS_self])]
  simp only [Option.none_or]
  rw [← List.head?_drop]
  cases hd : L.drop (i + 1) with
  | nil => rfl
  | cons b r =>
    have := h2 b (by rw [hd]; exact List.mem_cons_self)
    unfold ltS at this
    rw [cmpS_swap b L[i]] at this
    rw [List.find?_cons_of_pos (by simp; omega)]; rfl
theorem idxS_spec {L : List (List Int)} {p : List Int} {i : Nat} (h : idxS L p = some i) : ∃ hi : i < L.length, L[i] = p := by
  unfold idxS at h
  obtain ⟨hi, h1⟩ := List.findIdx?_eq_some_iff_getElem.1 h
  exact ⟨hi, by have := h1.1; simpa [cmpS_zero] using this⟩

/-- What Index answers. -/
def idxR (b : Bool) (o : Option Nat) : Int × Int := if b then (match o with | some i => ((i : Int), 0) | none => (0, 2)) else (0, 1)
def stepO (L : List (List Int)) (o : Option Nat) (d : Int) : List Int × Int := match o with | some i => (if (atL L ((i : Int) + d)).2 = 0 then ((atL L ((i : Int) + d)).1, 0) else ([], 8)) | none => ([], 2)
def stepR (t : Tree) (p : List Int) (d : Int) : List Int × Int := if validS t then stepO (allS [] t) (idxS (allS [] t) p) d else ([], 1)

theorem atL_nat (L : List (List Int)) (k : Nat) {i : Int} (h : i = (k : Int)) : atL L i = (match L[k]? with | some q => (q, 0) | none => ([], 2)) := by
  subst h; rw [atL, if_pos (by omega), Int.toNat_natCast]; cases L[k]? <;> rfl
theorem idx_cases (t : Tree) (p : List Int) : (posIn t p = true ∧ ∃ i, idxS (allS [] t) p = some i ∧ ∃ hi : i < (allS [] t).length, (allS [] t)[i] = p) ∨ (posIn t p = false ∧ idxS (allS [] t) p = none) := by
  have h := idxS_isSome t p
  cases hp : posIn t p
  · rw [hp] at h; exact .inr ⟨rfl, by cases hq : idxS (allS [] t) p with | none => rfl | some i => rw [hq] at h; cases h⟩
  · rw [hp] at h
    cases hq : idxS (allS [] t) p with
    | none => rw [hq] at h; cases h
    | some i => exact .inl ⟨rfl, i, rfl, idxS_spec hq⟩

theorem index_eq (t : Tree) (p : List Int) : indexR t p = idxR (validS t) (idxS (allS [] t) p) := by
  unfold indexR idxR chkR
  cases hv : validS t
  · simp
  · rcases idx_cases t p with ⟨hp, i, hi, hl, he⟩ | ⟨hp, hi⟩
    · rw [hp, hi]
      simp only [if_true]
      rw [idxE, take_at (allS_sorted [] t) hl he]
      simp; omega
    · rw [hp, hi]; simp
theorem next_eq (t : Tree) (p : List Int) : nextR t p = stepR t p 1 := by
  unfold nextR stepR chkR
  cases hv : validS t
  · simp
  · rcases idx_cases t p with ⟨hp, i, hi, hl, he⟩ | ⟨hp, hi⟩
    · rw [hp, hi]
      simp only [if_true, stepO]
      rw [next_at (allS_sorted [] t) hl he, atL_nat (allS [] t) (i + 1) (by omega)]
      cases (allS [] t)[i + 1]? <;> simp
    · rw [hp, hi]; simp [stepO]
theorem prev_eq (t : Tree) (p : List Int) : prevR t p = stepR t p (-1) := by
  unfold prevR stepR chkR
  cases hv : validS t
  · simp
  · rcases idx_cases t p with ⟨hp, i, hi, hl, he⟩ | ⟨hp, hi⟩
    · rw [hp, hi]
      simp only [if_true, stepO]
      rw [lastO, take_at (allS_sorted [] t) hl he]
      rcases i with _ | i
      · simp [optR, atL]
      · rw [atL_nat (allS [] t) i (by omega), List.getLast?_eq_getElem?]
        have : ((allS [] t).take (i + 1)).length = i + 1 := by simp; omega
        rw [this, Nat.add_sub_cancel, List.getElem?_take_of_lt (by omega)]
        cases (allS [] t)[i]? <;> simp [optR]
    · rw [hp, hi]; simp [stepO]
end Go.Proofs.Ytognlokeadlpbaa
