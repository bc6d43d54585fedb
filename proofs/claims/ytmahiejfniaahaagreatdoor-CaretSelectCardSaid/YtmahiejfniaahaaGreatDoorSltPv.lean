/- The rectangle of a part of a row, plain; Concat of a row and one number. Written by wip/genslt.py. -/
import Derived.Test.YtmahiejfniaahaaGreatDoorHD
import Derived.Test.YtmahiejfniaahaaGreatDoorHE
import Derived.Test.YtmahiejfniaahaaGreatDoorGM
set_option linter.unusedVariables false
set_option linter.unusedSimpArgs false
set_option maxRecDepth 100000
namespace Go.Proofs.YtmahiejfniaahaaGreatDoor
open Go.RowKit

/-- What Select returns: left, right, top, bottom, and the error. -/
def selR (t : Tree) (b : Bx) (q : List Int) (f e : Int) : (Int × Int × Int × Int) × Int :=
  if (validS t && validB b) = false then ((0, 0, 0, 0), 1)
  else if (posIn t (q ++ [f]) && (posIn t (q ++ [e]) && decide (f ≤ e))) = false then ((0, 0, 0, 0), 2)
  else match placeS t b q f, placeS t b q e with
    | some d, some d' => ((d.x, d'.x, d.top, d.bottom), 0)
    | _, _ => ((0, 0, 0, 0), 8)
def SelRes (w : World) (r : (Int × Int × Int × Int) × Int) (e : Ending) (w' : World) : Prop :=
  Below w.heap.size w w' ∧ e = .returned (.tuple #[.int .i64 r.1.1, .int .i64 r.1.2.1, .int .i64 r.1.2.2.1, .int .i64 r.1.2.2.2, .int .i64 r.2])
def RSelRes (w : World) (r : (Int × Int × Int × Int) × Int) (e : Ending) (w' : World) : Prop :=
  Below w.heap.size w w' ∧ e = .returned (.tuple #[.agg #[.int .i64 r.1.1, .int .i64 r.1.2.1, .int .i64 r.1.2.2.1, .int .i64 r.1.2.2.2], .int .i64 r.2])
theorem placeS_both (t : Tree) (b : Bx) (q : List Int) (f e : Int) : (placeS t b q f = none ∧ placeS t b q e = none) ∨ ∃ d d', placeS t b q f = some d ∧ placeS t b q e = some d' := by
  unfold placeS
  cases rowS t q with
  | none => exact .inl ⟨rfl, rfl⟩
  | some r =>
    cases findB 1 q b with
    | none => exact .inl ⟨rfl, rfl⟩
    | some f =>
      dsimp only
      split
      · exact .inr ⟨_, _, rfl, rfl⟩
      · exact .inl ⟨rfl, rfl⟩
theorem selR_arg {t : Tree} {b : Bx} (q : List Int) (f e : Int) (h : (validS t && validB b) = false) : selR t b q f e = ((0, 0, 0, 0), 1) := by rw [selR, if_pos h]
theorem selR_rng {t : Tree} {b : Bx} {q : List Int} {f e : Int} (h : (validS t && validB b) = true) (h2 : (posIn t (q ++ [f]) && (posIn t (q ++ [e]) && decide (f ≤ e))) = false) : selR t b q f e = ((0, 0, 0, 0), 2) := by
  rw [selR, if_neg (by simp [h]), if_pos h2]
theorem selR_none {t : Tree} {b : Bx} {q : List Int} {f e : Int} (h : (validS t && validB b) = true) (h2 : (posIn t (q ++ [f]) && (posIn t (q ++ [e]) && decide (f ≤ e))) = true) (h3 : placeS t b q f = none) : selR t b q f e = ((0, 0, 0, 0), 8) := by
  rw [selR, if_neg (by simp [h]), if_neg (by simp [h2]), h3]
theorem selR_some {t : Tree} {b : Bx} {q : List Int} {f e : Int} {d d' : CarD} (h : (validS t && validB b) = true) (h2 : (posIn t (q ++ [f]) && (posIn t (q ++ [e]) && decide (f ≤ e))) = true) (h3 : placeS t b q f = some d) (h4 : placeS t b q e = some d') : selR t b q f e = ((d.x, d'.x, d.top, d.bottom), 0) := by
  rw [selR, if_neg (by simp [h]), if_neg (by simp [h2]), h3, h4]
theorem rowRes_no {t : Tree} {q : List Int} (hv : validS t = true) (h : rowS t q = none) : rowRes t q = (zeroT, 8) := by
  rw [find_row] at h
  unfold rowRes
  split at h
  · cases h
  · rename_i hf
    rw [if_neg (by simp [hv]), if_pos (by simpa using hf)]
theorem rowRes_yes {t : Tree} {q : List Int} {t' : Tree} (hv : validS t = true) (h : rowS t q = some t') : rowRes t q = (t', 0) := by
  rw [find_row] at h
  unfold rowRes
  split at h
  · rename_i hf
    injection h with h
    rw [if_neg (by simp [hv]), if_neg (by simp [hf]), h]
  · cases h
/-- The range as the reference asks for it. -/
theorem sel_rng (t : Tree) (q : List Int) (f e : Int) (hv : validS t = true) : (posIn t (q ++ [f]) && (posIn t (q ++ [e]) && decide (f ≤ e))) = (decide ((rowRes t q).2 = 0) && (decide (0 ≤ f) && (decide (f ≤ e) && decide (e ≤ ((rowRes t q).1.kids.length : Int))))) := by
  cases hr : rowS t q with
  | none =>
    have h1 : posIn t (q ++ [f]) = false := by
      rcases Bool.eq_false_or_eq_true (posIn t (q ++ [f])) with h | h
      · obtain ⟨t', h', _⟩ := posIn_row t q f h
        rw [hr] at h'
        cases h'
      · exact h
    have h2 : decide ((rowRes t q).2 = 0) = false := by
      rw [rowRes_no hv hr]; rfl
    rw [h1, h2, Bool.false_and, Bool.false_and]
  | some t' =>
    have hR := rowRes_yes hv hr
    rw [hR]
    rw [Bool.eq_iff_iff]
    simp only [Bool.and_eq_true, decide_eq_true_eq]
    constructor
    · rintro ⟨h1, h2, h3⟩
      obtain ⟨t1, e1, a1, a2⟩ := posIn_row t q f h1
      obtain ⟨t2, e2, b1, b2⟩ := posIn_row t q e h2
      rw [hr] at e1 e2
      cases e1
      cases e2
      exact ⟨trivial, a1, h3, b2⟩
    · rintro ⟨_, h1, h2, h3⟩
      exact ⟨row_posIn t q t' f hr h1 (by omega), row_posIn t q t' e hr (by omega) h3, h2⟩
theorem rows_lit2 {X : World} {xs ys : List Int} {u v : Value} {g : Nat} {T : TypeId} (h : HasObj X g (.cells #[u, v] T)) (hu : IntsR X (Lt X.heap.size) xs u) (hv : IntsR X (Lt X.heap.size) ys v) :
    SliceR (sliceE intE) X (Lt X.heap.size) [xs, ys] (.slice (some ⟨g, 0, none⟩) 2 2) := by
  have hc := h.cells.1
  refine ⟨_, _, [u, v], rfl, Nat.le_refl _, by simp [maxLen], fun _ => ⟨g, 0, rfl, h.lt, fun j x hx => ?_⟩, [u], [v], rfl, ⟨u, rfl, hu⟩, ListR.single (E := sliceE intE) ⟨v, rfl, hv⟩⟩
  exact hc j x (by simpa using hx)
theorem conc_two (X : World) (q : List Int) (x : Int) (A : Option Addr) (c g1 g2 : Nat) (h2 : HasObj X g2 (.cells #[.slice A q.length c, .slice (some ⟨g1, 0, none⟩) 1 1] 26)) (h1 : HasObj X g1 (.cells #[.int .i64 x] 3)) (hq : IntsR X (Lt X.heap.size) q (.slice A q.length c)) (hx : In64 x) (hl : q.length ≤ 100000) :
    Calls Tryz.prog 45 #[.slice (some ⟨g2, 0, none⟩) 2 2] X (OwnPost X (q ++ [x])) := by
  have h := concat_any [q, [x]] X (.slice (some ⟨g2, 0, none⟩) 2 2) ?_ (by simp; omega)
  · rwa [show [q, [x]].flatten = q ++ [x] by simp] at h
  · have hi1 : IntsR X (Lt X.heap.size) [x] (.slice (some ⟨g1, 0, none⟩) 1 1) := (one_int h1 hx).keep (fun _ _ => rfl) (fun k hk => hk ▸ h1.lt)
    exact rows_lit2 h2 hq hi1
end Go.Proofs.YtmahiejfniaahaaGreatDoor
