/- Texts put together: Find, Node7, Node8, RowS, ArrP. -/
import Derived.Test.YtmahiejfniaahaaDoorHH
import Derived.Test.YtmahiejfniaahaaDoorHG
import Derived.Lib.Strings
import Derived.Test.YtmahiejfniaahaaDoorGQ
import Derived.Deep.QuietTactic
import Derived.BigQuiet
import Derived.Test.YtmahiejfniaahaaDoorGD
/- node.find. -/
set_option linter.unusedVariables false
set_option linter.unusedSimpArgs false
set_option maxRecDepth 100000
namespace Go.Proofs.YtmahiejfniaahaaDoor
open Go.RowKit

/-- The row with a path. -/
def rowS : Tree → List Int → Option Tree
  | t, i :: k :: p =>
    if hi : 0 ≤ i ∧ i.toNat < t.kids.length then
      if hk : 0 ≤ k ∧ k.toNat < (t.kids[i.toNat]'hi.2).kids.length then rowS ((t.kids[i.toNat]'hi.2).kids[k.toNat]'hk.2) p else none
    else none
  | t, [] => some t
  | _, [_] => none

def FindP (w : World) (r : Option Tree) (e : Ending) (w' : World) : Prop :=
  (∃ n, w' = w.drewN n) ∧ ((r = none ∧ ∃ q, e = .returned (.tuple #[.pointer q, .bool false])) ∨ ∃ t' g o A cap rs, r = some t' ∧ e = .returned (.tuple #[.pointer (some ⟨g, o, none⟩), .bool true]) ∧ NodeAt w (Lt w.heap.size) g o t' A cap rs)

end Go.Proofs.YtmahiejfniaahaaDoor
/- ref09: SameItems, Equal. -/
set_option linter.unusedVariables false
set_option linter.unusedSimpArgs false
namespace Go.Proofs.YtmahiejfniaahaaDoor
open Go.RowKit

theorem toList_inj {s t : ByteArray} : s.toList = t.toList ↔ s = t := by
  constructor
  · intro h
    rw [Lib.toList_data, Lib.toList_data] at h
    exact ByteArray.ext (Array.toList_inj.1 h)
  · intro h; rw [h]

mutual
def eqS : Tree → Tree → Bool
  | .mk k s c ts, .mk k' s' c' us => k == k' && (s.toList == s'.toList && (c == c' && (ts.length == us.length && eqsS ts us)))
def eqsS : List Tree → List Tree → Bool
  | t :: ts, u :: us => eqS t u && eqsS ts us
  | _, _ => true
end
theorem eqsS_drop {ts us : List Tree} {i : Nat} (h : i < ts.length) (h' : i < us.length) : eqsS (ts.drop i) (us.drop i) = (eqS ts[i] us[i] && eqsS (ts.drop (i + 1)) (us.drop (i + 1))) := by
  rw [List.drop_eq_getElem_cons h, List.drop_eq_getElem_cons h', eqsS]
mutual
theorem eqS_iff : (t u : Tree) → (eqS t u = true ↔ t = u)
  | .mk k s c ts, .mk k' s' c' us => by
    unfold eqS
    have h := eqsS_iff ts us
    simp only [Bool.and_eq_true, beq_iff_eq, Tree.mk.injEq, h, toList_inj]
theorem eqsS_iff : (ts us : List Tree) → ((ts.length = us.length ∧ eqsS ts us = true) ↔ ts = us)
  | [], [] => by simp [eqsS]
  | [], u :: us => by simp
  | t :: ts, [] => by simp
  | t :: ts, u :: us => by
    have h1 := eqS_iff t u
    have h2 := eqsS_iff ts us
    simp only [eqsS, List.length_cons, Bool.and_eq_true, List.cons.injEq, Nat.add_right_cancel_iff, ← h2, h1]
    constructor <;> (rintro ⟨a, b, c⟩; exact ⟨b, a, c⟩)
end

end Go.Proofs.YtmahiejfniaahaaDoor
/- ref09: find, Row. -/
set_option linter.unusedVariables false
set_option linter.unusedSimpArgs false
namespace Go.Proofs.YtmahiejfniaahaaDoor
open Go.RowKit

def zeroT : Tree := .mk 0 ⟨#[]⟩ 0 []
/-- The row with a path, and whether there is one. -/
def findS : Tree → List Int → Tree × Bool
  | t, i :: k :: p =>
    if hi : 0 ≤ i ∧ i.toNat < t.kids.length then
      if hk : 0 ≤ k ∧ k.toNat < (t.kids[i.toNat]'hi.2).kids.length then findS ((t.kids[i.toNat]'hi.2).kids[k.toNat]'hk.2) p else (zeroT, false)
    else (zeroT, false)
  | t, [] => (t, true)
  | t, [_] => (t, false)

/-- A tree and a truth value as results. -/
def FindPost (S : Nat → Prop) (w : World) (r : Tree × Bool) (e : Ending) (w' : World) : Prop :=
  ∃ v, e = .returned (.tuple #[.agg #[.int .i64 r.1.kind, .string r.1.text, .int .i64 r.1.cols, v], .bool r.2]) ∧ SliceR treeE w' S r.1.kids v ∧ Below w.heap.size w w'

theorem findS_short (t : Tree) (p : List Int) (h : p.length < 2) : findS t p = (t, decide (p.length = 0)) := by
  match p, h with
  | [], _ => rfl
  | [_], _ => rfl

/-- Four cells of a block, set one after the other. -/
theorem four {w : World} {b : Nat} {x0 x1 x2 x3 : Value} (d0 : w.cell? ⟨b, 0, none⟩ = some x0) (d1 : w.cell? ⟨b, 1, none⟩ = some x1) (d2 : w.cell? ⟨b, 2, none⟩ = some x2) (d3 : w.cell? ⟨b, 3, none⟩ = some x3) (y0 y1 y2 y3 : Value) {W : World}
    (hW : W = (((w.setCell ⟨b, 0, none⟩ y0).setCell ⟨b, 1, none⟩ y1).setCell ⟨b, 2, none⟩ y2).setCell ⟨b, 3, none⟩ y3) :
    (W.cell? ⟨b, 0, none⟩ = some y0 ∧ W.cell? ⟨b, 1, none⟩ = some y1 ∧ W.cell? ⟨b, 2, none⟩ = some y2 ∧ W.cell? ⟨b, 3, none⟩ = some y3) ∧ W.heap.size = w.heap.size ∧ (∀ B a, B ≤ b → Below B a w → Below B a W) ∧
    (∀ p : Addr, p.block ≠ b → W.cell? p = w.cell? p) ∧ (∀ p : Addr, W.frozen? p = w.frozen? p) := by
  have o : ∀ (i j : Nat), i ≠ j → (⟨b, i, none⟩ : Addr) ≠ ⟨b, j, none⟩ := fun i j h e => h (by injection e)
  have f : ∀ (p : Addr) (j : Nat), p.block ≠ b → (⟨b, j, none⟩ : Addr) ≠ p := fun p j h e => h (by rw [← e])
  subst hW
  refine ⟨⟨?_, ?_, ?_, ?_⟩, by simp [World.setCell], fun B a hB h => (((h.setCell hB _).setCell hB _).setCell hB _).setCell hB _, fun p hp => ?_, fun p => ?_⟩
  · rw [World.cell?_setCell_other (h := o 3 0 (by decide)), World.cell?_setCell_other (h := o 2 0 (by decide)), World.cell?_setCell_other (h := o 1 0 (by decide)), World.cell?_setCell_same (h := d0)]
  · rw [World.cell?_setCell_other (h := o 3 1 (by decide)), World.cell?_setCell_other (h := o 2 1 (by decide))]
    exact World.cell?_setCell_same _ _ _ (by rw [World.cell?_setCell_other (h := o 0 1 (by decide))]; exact d1)
  · rw [World.cell?_setCell_other (h := o 3 2 (by decide))]
    exact World.cell?_setCell_same _ _ _ (by rw [World.cell?_setCell_other (h := o 1 2 (by decide)), World.cell?_setCell_other (h := o 0 2 (by decide))]; exact d2)
  · exact World.cell?_setCell_same _ _ _ (by rw [World.cell?_setCell_other (h := o 2 3 (by decide)), World.cell?_setCell_other (h := o 1 3 (by decide)), World.cell?_setCell_other (h := o 0 3 (by decide))]; exact d3)
  · rw [World.cell?_setCell_other (h := f p 3 hp), World.cell?_setCell_other (h := f p 2 hp), World.cell?_setCell_other (h := f p 1 hp), World.cell?_setCell_other (h := f p 0 hp)]
  · rw [World.frozen?_setCell, World.frozen?_setCell, World.frozen?_setCell, World.frozen?_setCell]

theorem below_dn8 {B : Nat} {a w : World} (h : Below B a w) (n : Nat) : Below B a (w.drewN n) := ⟨h.os, h.tape, h.output, h.size, h.block⟩
theorem cell_dn {w : World} {p : Addr} {v : Value} {n : Nat} (h : w.cell? p = some v) : (w.drewN n).cell? p = some v := h

end Go.Proofs.YtmahiejfniaahaaDoor
/- The two ways to say which row a path names. -/
set_option linter.unusedVariables false
namespace Go.Proofs.YtmahiejfniaahaaDoor
open Go.RowKit
theorem find_row : (t : Tree) → (p : List Int) → rowS t p = if (findS t p).2 = true then some (findS t p).1 else none
  | t, [] => by simp [rowS, findS]
  | t, [_] => by simp [rowS, findS]
  | t, i :: k :: p => by
    rw [rowS, findS]
    split
    · split
      · exact find_row _ p
      · simp
    · simp
end Go.Proofs.YtmahiejfniaahaaDoor
/- Plain: where left, right, home and end lead. -/
set_option linter.unusedVariables false
set_option linter.unusedSimpArgs false
namespace Go.Proofs.YtmahiejfniaahaaDoor
open Go.RowKit

def rowLen (t : Tree) (p : List Int) : Int := match rowS t p with | some t' => (t'.kids.length : Int) | none => 0
/-- Left, Right, Home, End (0 to 3). -/
def moveS (t : Tree) (p : List Int) (d : Int) : List Int × Int :=
  if validS t = false then ([], 1) else if posIn t p = false then ([], 2)
  else if d = 0 then stepR t p (-1) else if d = 1 then stepR t p 1
  else if d = 2 then (p.dropLast ++ [0], 0) else (p.dropLast ++ [rowLen t p.dropLast], 0)

theorem posIn_row : (t : Tree) → (p : List Int) → (x : Int) → posIn t (p ++ [x]) = true → ∃ t', rowS t p = some t' ∧ 0 ≤ x ∧ x ≤ t'.kids.length
  | t, [], x, h => by
    simp [posIn] at h
    exact ⟨t, rfl, h⟩
  | t, [i], x, h => by simp [posIn] at h
  | t, i :: k :: p, x, h => by
    have h' : posIn t (i :: k :: (p ++ [x])) = true := h
    rw [posIn] at h'
    split at h'
    · rename_i hi
      split at h'
      · rename_i hk
        rw [rowS, dif_pos hi, dif_pos hk]
        exact posIn_row _ p x h'
      · cases h'
    · cases h'
theorem row_posIn : (t : Tree) → (p : List Int) → (t' : Tree) → (x : Int) → rowS t p = some t' → 0 ≤ x → x ≤ t'.kids.length → posIn t (p ++ [x]) = true
  | t, [], t', x, h, h0, h1 => by
    simp [rowS] at h
    subst h
    simp [posIn, h0, h1]
  | t, [_], t', x, h, _, _ => by simp [rowS] at h
  | t, i :: k :: p, t', x, h, h0, h1 => by
    rw [rowS] at h
    split at h
    · rename_i hi
      split at h
      · rename_i hk
        show posIn t (i :: k :: (p ++ [x])) = true
        rw [posIn, dif_pos hi, dif_pos hk]
        exact row_posIn _ p t' x h h0 h1
      · cases h
    · cases h
theorem posIn_ne {t : Tree} {p : List Int} (h : posIn t p = true) : ∃ q x, p = q ++ [x] := by
  rcases List.eq_nil_or_concat p with rfl | ⟨q, x, rfl⟩
  · simp [posIn] at h
  · exact ⟨q, x, List.concat_eq_append⟩

theorem step_next {t : Tree} (hv : validS t = true) {i : Nat} (hi : i < (allS [] t).length) : stepR t (allS [] t)[i] 1 = (match (allS [] t)[i + 1]? with | some q => (q, 0) | none => ([], 8)) := by
  rw [stepR, if_pos hv, idxS_self (allS_sorted [] t) hi]
  show (if (atL (allS [] t) ((i : Int) + 1)).2 = 0 then _ else _) = _
  rw [atL_nat _ (i + 1) (by omega)]
  cases (allS [] t)[i + 1]? <;> simp
theorem step_prev {t : Tree} (hv : validS t = true) {i : Nat} (hi : i < (allS [] t).length) : stepR t (allS [] t)[i] (-1) = (if i = 0 then ([], 8) else ((allS [] t).getD (i - 1) [], 0)) := by
  rw [stepR, if_pos hv, idxS_self (allS_sorted [] t) hi]
  show (if (atL (allS [] t) ((i : Int) + -1)).2 = 0 then _ else _) = _
  by_cases h : i = 0
  · subst h
    rw [atL, if_neg (show ¬ (0 : Int) ≤ ((0 : Nat) : Int) + -1 by omega)]
    simp
  · rw [atL_nat _ (i - 1) (by omega), List.getElem?_eq_getElem (by omega), if_neg h, List.getD_eq_getElem?_getD, List.getElem?_eq_getElem (by omega)]
    simp

theorem all_posIn {t : Tree} {i : Nat} (hi : i < (allS [] t).length) : posIn t (allS [] t)[i] = true := mem_all.1 (List.getElem_mem hi)
theorem move_right {t : Tree} (hv : validS t = true) {i : Nat} (hi : i < (allS [] t).length) : moveS t (allS [] t)[i] 1 = (match (allS [] t)[i + 1]? with | some q => (q, 0) | none => ([], 8)) := by
  rw [moveS, if_neg (by simp [hv]), if_neg (by simp [all_posIn hi]), if_neg (by omega), if_pos rfl, step_next hv hi]
theorem move_left {t : Tree} (hv : validS t = true) {i : Nat} (hi : i < (allS [] t).length) : moveS t (allS [] t)[i] 0 = (if i = 0 then ([], 8) else ((allS [] t).getD (i - 1) [], 0)) := by
  rw [moveS, if_neg (by simp [hv]), if_neg (by simp [all_posIn hi]), if_pos rfl, step_prev hv hi]
/-- Home (2) and End (3), and the same again. -/
theorem move_row {t : Tree} (hv : validS t = true) {q : List Int} {x : Int} (hp : posIn t (q ++ [x]) = true) {d : Int} (hd : d = 2 ∨ d = 3) :
    moveS t (q ++ [x]) d = (q ++ [(d - 2) * rowLen t q], 0) ∧ moveS t (q ++ [(d - 2) * rowLen t q]) d = (q ++ [(d - 2) * rowLen t q], 0) := by
  obtain ⟨t', h1, h2, h3⟩ := posIn_row t q x hp
  have hl : rowLen t q = t'.kids.length := by rw [rowLen, h1]
  have go : ∀ y, posIn t (q ++ [y]) = true → moveS t (q ++ [y]) d = (q ++ [(d - 2) * rowLen t q], 0) := fun y hy => by
    rw [moveS, if_neg (by simp [hv]), if_neg (by simp [hy]), if_neg (by omega), if_neg (by omega), List.dropLast_concat]
    rcases hd with rfl | rfl
    · simp
    · simp
  refine ⟨go x hp, go _ (row_posIn t q t' _ h1 ?_ ?_)⟩
  · rw [hl]; rcases hd with rfl | rfl <;> simp
  · rw [hl]; rcases hd with rfl | rfl <;> simp
end Go.Proofs.YtmahiejfniaahaaDoor
