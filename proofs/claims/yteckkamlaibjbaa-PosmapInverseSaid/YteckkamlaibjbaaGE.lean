/- Texts put together: InvP, PosP, ChgP, ImgP, OrdP. -/
import Derived.Test.YteckkamlaibjbaaGI
import Derived.Test.YteckkamlaibjbaaGD
/- Plain: an operation and its inverse. No program in sight. -/
set_option linter.unusedVariables false
set_option linter.unusedSimpArgs false
namespace Go.Proofs.Yteckkamlaibjbaa
open Go.RowKit

def invS (op : OpD) : OpD :=
  ⟨if op.kind = 1 then 2 else if op.kind = 2 then 1 else if op.kind = 3 then 4 else if op.kind = 4 then 3 else op.kind, op.row, op.at_, op.n, op.nodes, op.slot, if op.kind = 5 then op.text else op.old, if op.kind = 5 then op.old else op.text⟩

/-- The image of what stands behind the path of the operation's row. -/
def sufS (op : OpD) (after : Bool) : List Int → List Int
  | [o] => offsetS op o after
  | i :: s :: y :: r => insideS op i s (y :: r)
  | q => q
theorem map_suf (op : OpD) (q : List Int) (after : Bool) : refMapS op (op.row ++ q) after = op.row ++ sufS op after q := by
  unfold refMapS
  match q with
  | [] => rw [if_neg (by rw [within_iff]; simp)]; rfl
  | [o] => rw [if_pos (by rw [within_iff]; simp), if_pos (by simp)]; simp [sufS]
  | [i, s] => rw [if_neg (by rw [within_iff]; simp)]; rfl
  | i :: s :: y :: r =>
    rw [if_pos (by rw [within_iff]; simp), if_neg (by simp)]
    simp [sufS, List.getD_eq_getElem?_getD, List.getElem?_append_right]
theorem map_out {op : OpD} {pos : List Int} (h : withinS pos op.row = false) (after : Bool) : refMapS op pos after = pos := by
  unfold refMapS
  rw [h]
  simp
theorem within_split {pos row : List Int} (h : withinS pos row = true) : ∃ q, pos = row ++ q ∧ ((∃ o, q = [o]) ∨ ∃ i s y r, q = i :: s :: y :: r) := by
  obtain ⟨h1, h2, h3⟩ := within_iff.1 h
  refine ⟨pos.drop row.length, by conv => lhs; rw [← List.take_append_drop row.length pos, h2], ?_⟩
  have hl : (pos.drop row.length).length = pos.length - row.length := by simp
  match hq : pos.drop row.length with
  | [] => rw [hq] at hl; simp at hl; omega
  | [o] => exact .inl ⟨o, rfl⟩
  | [i, s] => rw [hq] at hl; simp at hl; omega
  | i :: s :: y :: r => exact .inr ⟨i, s, y, r, rfl⟩

/-- None of the exceptions: what stands behind the path. -/
def keptQ (op : OpD) : List Int → Prop
  | [o] => (op.kind = 2 → o < op.at_ ∨ op.at_ + op.nodes.length < o) ∧ (op.kind = 4 → op.n = 0 → o ≠ op.at_ ∧ o ≠ op.at_ + 1)
  | i :: s :: y :: r => (op.kind = 2 → i < op.at_ ∨ op.at_ + op.nodes.length ≤ i) ∧ (op.kind = 4 → i = op.at_ → s = op.slot ∧ 0 ≤ y ∧ y ≤ op.n ∧ (r ≠ [] → y < op.n) ∧ (r = [] → y ≠ 0 ∧ y ≠ op.n) ∧ ∀ z, r ≠ [z])
  | _ => True

theorem inv_flat (op : OpD) (o : Int) (x0 x1 : Bool) (hn : op.kind = 3 ∨ op.kind = 4 → 0 ≤ op.n) (hK : op.kind = 1 ∨ op.kind = 2 → 0 < op.nodes.length) (hk : keptQ op [o]) : sufS (invS op) x1 (offsetS op o x0) = [o] := by
  obtain ⟨kind, row, at_, n, nodes, slot, old, text⟩ := op
  simp only [keptQ] at hk hn hK
  generalize hKK : (nodes.length : Int) = K at *
  have hK0 : 0 < nodes.length ↔ 0 < K := by omega
  rw [hK0] at hK
  by_cases h1 : kind = 1
  · subst h1
    have := hK (by simp)
    clear hk hn hK hK0
    cases x0 <;> simp only [offsetS, hKK, reduceIte, true_and, false_and, and_true, and_false, or_false, Bool.false_eq_true, Int.reduceEq] <;> (repeat' split) <;> simp only [sufS, invS, offsetS, hKK, reduceIte, true_and, false_and, Int.reduceEq] <;> (repeat' split) <;> first | rfl | (exfalso; omega) | (congr 1; omega)
  by_cases h2 : kind = 2
  · subst h2
    have := hK (by simp)
    have := hk.1 rfl
    clear hk hn hK hK0
    simp only [offsetS, hKK, reduceIte, true_and, false_and, Int.reduceEq]
    (repeat' split) <;> cases x1 <;> simp only [sufS, invS, offsetS, hKK, reduceIte, true_and, false_and, and_true, and_false, or_false, Bool.false_eq_true, Int.reduceEq] <;> (repeat' split) <;> first | rfl | (exfalso; omega) | (congr 1; omega)
  by_cases h3 : kind = 3
  · subst h3
    have := hn (by simp)
    clear hk hn hK hK0
    cases x0 <;> simp only [offsetS, hKK, reduceIte, true_and, false_and, and_true, and_false, or_false, Bool.false_eq_true, Int.reduceEq] <;> (repeat' split) <;> simp only [sufS, invS, offsetS, insideS, hKK, reduceIte, true_and, false_and, Int.reduceEq, Int.lt_irrefl, List.headD_cons, List.tail_cons] <;> (repeat' split) <;> first | rfl | (exfalso; omega) | (congr 1; omega)
  by_cases h4 : kind = 4
  · subst h4
    have := hn (by simp)
    have hh := hk.2 rfl
    clear hk hn hK hK0
    have h9 : n = 0 ∨ 0 < n := by omega
    have h8 : n = 0 → o ≠ at_ ∧ o ≠ at_ + 1 := hh
    clear hh
    simp only [offsetS, hKK, reduceIte, true_and, false_and, Int.reduceEq]
    (repeat' split) <;> cases x1 <;> simp only [sufS, invS, offsetS, hKK, reduceIte, true_and, false_and, and_true, and_false, or_false, Bool.false_eq_true, Int.reduceEq] <;> (repeat' split) <;> first | rfl | (exfalso; rcases h9 with h9 | h9 <;> (try have := h8 h9) <;> omega) | (congr 1; omega)
  · simp [sufS, invS, offsetS, h1, h2, h3, h4]

theorem inv_deep (op : OpD) (i s y : Int) (r : List Int) (x1 : Bool) (hn : op.kind = 3 ∨ op.kind = 4 → 0 ≤ op.n) (hK : op.kind = 1 ∨ op.kind = 2 → 0 < op.nodes.length) (hk : keptQ op (i :: s :: y :: r)) : sufS (invS op) x1 (insideS op i s (y :: r)) = i :: s :: y :: r := by
  obtain ⟨kind, row, at_, n, nodes, slot, old, text⟩ := op
  simp only [keptQ] at hk hn hK
  generalize hKK : (nodes.length : Int) = K at *
  have hK0 : 0 < nodes.length ↔ 0 < K := by omega
  rw [hK0] at hK
  by_cases h1 : kind = 1
  · subst h1
    have := hK (by simp)
    clear hk hn hK hK0
    simp only [insideS, hKK, reduceIte, true_and, false_and, Int.reduceEq, List.cons_append, List.nil_append]
    (repeat' split) <;> simp only [sufS, invS, insideS, hKK, reduceIte, true_and, false_and, Int.reduceEq, List.cons_append, List.nil_append] <;> (repeat' split) <;> first | rfl | (exfalso; omega) | (congr 1; omega)
  by_cases h2 : kind = 2
  · subst h2
    have := hK (by simp)
    have := hk.1 rfl
    clear hk hn hK hK0
    simp only [insideS, hKK, reduceIte, true_and, false_and, Int.reduceEq, List.cons_append, List.nil_append]
    (repeat' split) <;> simp only [sufS, invS, insideS, hKK, reduceIte, true_and, false_and, Int.reduceEq, List.cons_append, List.nil_append] <;> (repeat' split) <;> first | rfl | (exfalso; omega) | (congr 1; omega)
  by_cases h3 : kind = 3
  · subst h3
    have := hn (by simp)
    clear hk hn hK hK0
    simp only [insideS, hKK, reduceIte, true_and, false_and, Int.reduceEq, List.cons_append, List.nil_append]
    (repeat' split) <;> simp only [sufS, invS, insideS, hKK, reduceIte, true_and, false_and, Int.reduceEq, Int.lt_irrefl, List.headD_cons, List.tail_cons, List.cons_append, List.nil_append] <;> (repeat' split) <;> first | rfl | (exfalso; omega) | (congr 1; omega)
  by_cases h4 : kind = 4
  · subst h4
    have := hn (by simp)
    have hq := hk.2 rfl
    clear hk hn hK hK0
    by_cases h : i = at_
    · obtain ⟨rfl, hy0, hy1, hy2, hy3, hy6⟩ := hq h
      subst h
      have e1 : insideS ⟨4, row, i, n, nodes, s, old, text⟩ i s (y :: r) = (i + y) :: r := by
        simp [insideS]
      rw [e1]
      match r, hy2, hy3, hy6 with
      | [], hy2, hy3, hy6 =>
        obtain ⟨hy4, hy5⟩ := hy3 rfl
        simp only [sufS, invS, offsetS, hKK, reduceIte, true_and, false_and, Int.reduceEq]
        (repeat' split) <;> first | rfl | (exfalso; omega) | (congr 1; congr 1; congr 1; omega) | (congr 3; omega)
      | [z], hy2, hy3, hy6 => exact absurd rfl (hy6 z)
      | z :: z2 :: r, hy2, hy3, hy6 =>
        have := hy2 (by simp)
        simp only [sufS, invS, insideS, hKK, reduceIte, true_and, false_and, Int.reduceEq, List.cons_append, List.nil_append]
        (repeat' split) <;> first | rfl | (exfalso; omega) | (congr 1; congr 1; congr 1; omega) | (congr 3; omega)
    · clear hq
      simp only [insideS, hKK, reduceIte, true_and, false_and, Int.reduceEq, List.cons_append, List.nil_append]
      (repeat' split) <;> simp only [sufS, invS, insideS, hKK, reduceIte, true_and, false_and, Int.reduceEq, List.cons_append, List.nil_append] <;> (repeat' split) <;> first | rfl | (exfalso; omega) | (congr 1; omega)
  · by_cases h : i < at_ <;> simp [sufS, invS, insideS, h, h1, h2, h3, h4]
end Go.Proofs.Yteckkamlaibjbaa
/- Plain: positions of a tree with another row in it. -/
set_option linter.unusedVariables false
set_option linter.unusedSimpArgs false
namespace Go.Proofs.Yteckkamlaibjbaa
open Go.RowKit

theorem kidS_big {t : Tree} {i : Int} (h : ¬ i.toNat < t.kids.length) : kidS t i = zeroT := by
  unfold kidS; rw [List.getD_eq_getElem?_getD, List.getElem?_eq_none (by omega)]; rfl
theorem posIn_step (t : Tree) (i k : Int) (p : List Int) : posIn t (i :: k :: p) = (decide (0 ≤ i ∧ i.toNat < t.kids.length) && (decide (0 ≤ k ∧ k.toNat < (kidS t i).kids.length) && posIn (kidS (kidS t i) k) p)) := by
  rw [posIn]
  split
  · rename_i hi
    rw [kidS_get hi.2]
    split
    · rename_i hk
      rw [kidS_get hk.2]; simp [hi, hk]
    · rename_i hk
      simp [hi, hk]
  · rename_i hi
    simp [hi]
theorem find_step (t : Tree) (i k : Int) (p : List Int) (h : (findS t (i :: k :: p)).2 = true) : (0 ≤ i ∧ i.toNat < t.kids.length) ∧ (0 ≤ k ∧ k.toNat < (kidS t i).kids.length) ∧ findS t (i :: k :: p) = findS (kidS (kidS t i) k) p := by
  rw [findS] at h ⊢
  split at h
  · rename_i hi
    split at h
    · rename_i hk
      refine ⟨hi, ⟨hk.1, by rw [kidS_get hi.2]; exact hk.2⟩, ?_⟩
      rw [dif_pos hi, dif_pos hk, kidS_get hi.2, kidS_get hk.2]
    · cases h
  · cases h
theorem replS_len (t : Tree) (i : Nat) (k : Tree) : (replS t i k).kids.length = t.kids.length := List.length_set
theorem replS_same {t : Tree} {i : Int} {k : Tree} (hi : i.toNat < t.kids.length) : kidS (replS t i.toNat k) i = k := by
  show (t.kids.set i.toNat k).getD i.toNat zeroT = k
  rw [List.getD_eq_getElem?_getD, List.getElem?_set_self hi]; rfl
theorem replS_other {t : Tree} {i x : Int} {k : Tree} (h : x.toNat ≠ i.toNat) : kidS (replS t i.toNat k) x = kidS t x := by
  show (t.kids.set i.toNat k).getD x.toNat zeroT = t.kids.getD x.toNat zeroT
  rw [List.getD_eq_getElem?_getD, List.getD_eq_getElem?_getD, List.getElem?_set_ne (by omega)]
/-- Behind the path of the other row. -/
theorem posIn_put_in : (p : List Int) → (t : Tree) → (l : List Tree) → (q : List Int) → (findS t p).2 = true → posIn (putS t p l) (p ++ q) = posIn (rowT l) q
  | [], t, l, q, _ => rfl
  | [_], t, l, q, h => by simp [findS] at h
  | i :: k :: p, t, l, q, h => by
    obtain ⟨hi, hk, he⟩ := find_step t i k p h
    rw [he] at h
    show posIn (putS t (i :: k :: p) l) (i :: k :: (p ++ q)) = _
    rw [posIn_step, putS, replS_len, replS_same hi.2, replS_len, replS_same hk.2, posIn_put_in p _ l q h]
    simp [hi, hk]
theorem posIn_find : (p : List Int) → (t : Tree) → (q : List Int) → (findS t p).2 = true → posIn t (p ++ q) = posIn (findS t p).1 q
  | [], t, q, _ => rfl
  | [_], t, q, h => by simp [findS] at h
  | i :: k :: p, t, q, h => by
    obtain ⟨hi, hk, he⟩ := find_step t i k p h
    rw [he] at h ⊢
    show posIn t (i :: k :: (p ++ q)) = _
    rw [posIn_step, posIn_find p _ q h]
    simp [hi, hk]
theorem posIn_one (t : Tree) (x : Int) : posIn t [x] = decide (0 ≤ x ∧ x ≤ t.kids.length) := by rw [posIn]
theorem posIn_put_out : (p : List Int) → (t : Tree) → (l : List Tree) → (q : List Int) → (findS t p).2 = true → ¬ p <+: q → posIn (putS t p l) q = posIn t q
  | [], t, l, q, _, hn => absurd (List.nil_prefix) hn
  | [_], t, l, q, h, _ => by simp [findS] at h
  | i :: k :: p, t, l, [], h, _ => by simp [posIn]
  | i :: k :: p, t, l, [x], h, _ => by rw [posIn_one, posIn_one, putS, replS_len]
  | i :: k :: p, t, l, x :: y :: q, h, hn => by
    obtain ⟨hi, hk, he⟩ := find_step t i k p h
    rw [he] at h
    rw [posIn_step, posIn_step, putS, replS_len]
    by_cases hx : 0 ≤ x ∧ x.toNat < t.kids.length
    · by_cases hxi : x.toNat = i.toNat
      · obtain rfl : x = i := by omega
        rw [replS_same hi.2, replS_len]
        by_cases hy : 0 ≤ y ∧ y.toNat < (kidS t x).kids.length
        · by_cases hyk : y.toNat = k.toNat
          · obtain rfl : y = k := by omega
            rw [replS_same hk.2, posIn_put_out p _ l q h (fun hp => hn (by
              obtain ⟨s, rfl⟩ := hp
              exact ⟨s, rfl⟩))]
          · rw [replS_other hyk]
        · simp [hy]
      · rw [replS_other hxi]
    · simp [hx]
theorem posIn_kids (t u : Tree) (h : t.kids = u.kids) : (q : List Int) → posIn t q = posIn u q
  | [] => rfl
  | [x] => by rw [posIn_one, posIn_one, h]
  | i :: k :: p => by
    have hk : kidS t i = kidS u i := by unfold kidS; rw [h]
    rw [posIn_step, posIn_step, h, hk]
/-- A position is not a path of a row. -/
theorem posIn_odd : (q : List Int) → (t : Tree) → posIn t q = true → q.length % 2 = 1
  | [], t, h => by simp [posIn] at h
  | [x], t, h => rfl
  | i :: k :: p, t, h => by
    rw [posIn_step] at h
    simp only [Bool.and_eq_true] at h
    have := posIn_odd p _ h.2.2
    simp only [List.length_cons]; omega
theorem find_even : (p : List Int) → (t : Tree) → (findS t p).2 = true → p.length % 2 = 0
  | [], t, h => rfl
  | [x], t, h => by simp [findS] at h
  | i :: k :: p, t, h => by
    obtain ⟨_, _, he⟩ := find_step t i k p h
    rw [he] at h
    have := find_even p _ h
    simp only [List.length_cons]; omega
end Go.Proofs.Yteckkamlaibjbaa
/- Plain: an operation on a row of items, and its positions. -/
set_option linter.unusedVariables false
set_option linter.unusedSimpArgs false
namespace Go.Proofs.Yteckkamlaibjbaa
open Go.RowKit

abbrev itemD (l : List Tree) (i : Nat) : Tree := l.getD i zeroT
theorem itemD_append (xs ys : List Tree) (i : Nat) : itemD (xs ++ ys) i = if i < xs.length then itemD xs i else itemD ys (i - xs.length) := by
  unfold itemD
  simp only [List.getD_eq_getElem?_getD]
  split
  · rename_i h; rw [List.getElem?_append_left h]
  · rename_i h; rw [List.getElem?_append_right (by omega)]
theorem itemD_take (xs : List Tree) (a i : Nat) (h : i < a) : itemD (xs.take a) i = itemD xs i := by
  unfold itemD
  simp only [List.getD_eq_getElem?_getD]
  rw [List.getElem?_take, if_pos h]
theorem itemD_drop (xs : List Tree) (a i : Nat) : itemD (xs.drop a) i = itemD xs (a + i) := by
  unfold itemD
  simp only [List.getD_eq_getElem?_getD]
  rw [List.getElem?_drop]
theorem splice_len {l bs : List Tree} {a b : Nat} (ha : a ≤ l.length) : (spliceS l a b bs).length = a + bs.length + (l.length - b) := by
  unfold spliceS; simp; omega
theorem splice_lo {l bs : List Tree} {a b i : Nat} (ha : a ≤ l.length) (h : i < a) : itemD (spliceS l a b bs) i = itemD l i := by
  unfold spliceS
  rw [itemD_append, if_pos (by simp; omega), itemD_append, if_pos (by simp; omega), itemD_take _ _ _ h]
theorem splice_mid {l bs : List Tree} {a b i : Nat} (ha : a ≤ l.length) (h : i < bs.length) : itemD (spliceS l a b bs) (a + i) = itemD bs i := by
  unfold spliceS
  rw [itemD_append, if_pos (by simp; omega), itemD_append, if_neg (by simp; omega)]
  congr 1
  simp
  omega
theorem splice_hi {l bs : List Tree} {a b i : Nat} (ha : a ≤ l.length) (h : b ≤ i) : itemD (spliceS l a b bs) (a + bs.length + (i - b)) = itemD l i := by
  unfold spliceS
  rw [itemD_append, if_neg (by simp; omega), itemD_drop]
  congr 1
  simp
  omega

/-- Positions in a row with items. -/
theorem row_one (l : List Tree) (x : Int) : posIn (rowT l) [x] = true ↔ 0 ≤ x ∧ x ≤ l.length := by
  rw [posIn_one, decide_eq_true_eq]; rfl
theorem row_deep (l : List Tree) (i : Nat) (s : Int) (q : List Int) : posIn (rowT l) ((i : Int) :: s :: q) = true ↔ i < l.length ∧ (0 ≤ s ∧ s.toNat < (itemD l i).kids.length) ∧ posIn (kidS (itemD l i) s) q = true := by
  rw [posIn_step]
  have h1 : (rowT l).kids = l := rfl
  have h2 : kidS (rowT l) (i : Int) = itemD l i := by unfold kidS; rw [Int.toNat_natCast]; rfl
  rw [h1, h2]
  simp [and_assoc]
theorem row_nonneg {l : List Tree} {i s : Int} {q : List Int} (h : posIn (rowT l) (i :: s :: q) = true) : ∃ i' : Nat, i = i' := by
  rw [posIn_step] at h
  simp only [Bool.and_eq_true, decide_eq_true_eq] at h
  exact ⟨i.toNat, by omega⟩

/-- What an operation that could be applied says of the row. -/
structure Done (l l' : List Tree) (op : OpD) (a : Nat) : Prop where
  at_ : op.at_ = a
  n : op.kind = 3 ∨ op.kind = 4 → 0 ≤ op.n
  K : op.kind = 1 ∨ op.kind = 2 → 0 < op.nodes.length
  kind : 1 ≤ op.kind ∧ op.kind ≤ 5
  ins : op.kind = 1 → a ≤ l.length ∧ l' = spliceS l a a op.nodes
  del : op.kind = 2 → a + op.nodes.length ≤ l.length ∧ l' = spliceS l a (a + op.nodes.length) []
  wrap : op.kind = 3 → a + op.n.toNat ≤ l.length ∧ ∃ t, l' = spliceS l a (a + op.n.toNat) [t] ∧ (0 ≤ op.slot ∧ op.slot.toNat < t.kids.length) ∧ kidS t op.slot = rowT ((l.take (a + op.n.toNat)).drop a)
  unw : op.kind = 4 → a < l.length ∧ l' = spliceS l a (a + 1) (kidS (itemD l a) op.slot).kids ∧ ((kidS (itemD l a) op.slot).kids.length : Int) = op.n ∧ 0 ≤ op.slot ∧ op.slot.toNat < (itemD l a).kids.length
  set : op.kind = 5 → a < l.length ∧ ∃ t, l' = spliceS l a (a + 1) [t] ∧ t.kids = (itemD l a).kids

theorem done_of {l : List Tree} {op : OpD} (hf : formedS op = true) (h : (changeS l op).2 = 0) : ∃ a, Done l (changeS l op).1 op a := by
  unfold changeS at h ⊢
  split at h
  · simp at h
  rename_i hr
  rw [if_neg hr]
  obtain ⟨a, ha⟩ : ∃ a : Nat, op.at_ = a := ⟨op.at_.toNat, by omega⟩
  refine ⟨a, ?_⟩
  have hal : a ≤ l.length := by omega
  unfold formedS at hf
  by_cases h1 : op.kind = 1
  · rw [if_pos (Or.inl h1)] at hf
    simp only [Bool.and_eq_true, decide_eq_true_eq] at hf
    rw [if_pos h1]
    have e : op.at_.toNat = a := by omega
    refine ⟨ha, fun h => by omega, fun _ => hf.1, by omega, fun _ => ⟨hal, by rw [e]⟩, fun h => by omega, fun h => by omega, fun h => by omega, fun h => by omega⟩
  rw [if_neg h1] at h ⊢
  by_cases h2 : op.kind = 2
  · rw [if_pos (Or.inr h2)] at hf
    simp only [Bool.and_eq_true, decide_eq_true_eq] at hf
    rw [if_pos h2] at h ⊢
    split at h
    · rename_i hs
      rw [if_pos hs]
      have hnd : needS op = op.nodes.length := by unfold needS; rw [if_neg h1, if_pos h2]
      have e : op.at_.toNat = a := by omega
      have e2 : (op.at_ + (op.nodes.length : Int)).toNat = a + op.nodes.length := by omega
      refine ⟨ha, fun h => by omega, fun _ => hf.1, by omega, fun h => by omega, fun _ => ⟨by omega, by rw [e, e2]⟩, fun h => by omega, fun h => by omega, fun h => by omega⟩
    · simp at h
  rw [if_neg h2] at h ⊢
  rw [if_neg (by omega)] at hf
  by_cases h3 : op.kind = 3
  · rw [if_pos (Or.inl h3)] at hf
    simp only [Bool.and_eq_true, decide_eq_true_eq] at hf
    obtain ⟨hn, htm, _⟩ := hf
    obtain ⟨t0, ht0, hs0, hs1, hke⟩ := template_one htm
    rw [if_pos h3]
    have hnd : needS op = op.n := by unfold needS; rw [if_neg h1, if_neg h2, if_pos h3]
    have e : op.at_.toNat = a := by omega
    have e2 : (op.at_ + op.n).toNat = a + op.n.toNat := by omega
    refine ⟨ha, fun _ => hn, fun h => by omega, by omega, fun h => by omega, fun h => by omega, fun _ => ⟨by omega, _, by rw [e, e2], ?_, ?_⟩, fun h => by omega, fun h => by omega⟩
    · rw [ht0, List.headD_cons]
      exact ⟨hs0, by show _ < (replS t0 _ _).kids.length; rw [replS_len]; omega⟩
    · rw [ht0, List.headD_cons]
      show kidS (replS t0 op.slot.toNat _) op.slot = _
      rw [replS_same (by omega)]
  rw [if_neg h3] at h ⊢
  by_cases h4 : op.kind = 4
  · rw [if_pos (Or.inr h4)] at hf
    simp only [Bool.and_eq_true, decide_eq_true_eq] at hf
    obtain ⟨hn, htm, _⟩ := hf
    obtain ⟨t0, ht0, hs0, hs1, hke⟩ := template_one htm
    rw [if_pos h4] at h ⊢
    have hnd : needS op = 1 := by unfold needS; rw [if_neg h1, if_neg h2, if_neg h3]
    split at h
    · simp at h
    · rename_i hc
      rw [if_neg hc]
      have e : op.at_.toNat = a := by omega
      have e2 : (op.at_ + 1).toNat = a + 1 := by omega
      rw [e] at hc
      rw [e, e2]
      have c1 : ¬ ((l.getD a zeroT).kids.length : Int) ≤ op.slot := fun h => hc (Or.inl h)
      have c2 : ((kidS (l.getD a zeroT) op.slot).kids.length : Int) = op.n := Decidable.byContradiction fun h => hc (Or.inr (Or.inl h))
      exact ⟨ha, fun _ => hn, fun h => by omega, by omega, fun h => by omega, fun h => by omega, fun h => by omega, fun _ => ⟨by omega, rfl, c2, hs0, by show op.slot.toNat < (l.getD a zeroT).kids.length; omega⟩, fun h => by omega⟩
  rw [if_neg (by omega)] at hf
  split at hf
  · rename_i h5
    rw [if_neg h4] at h ⊢
    have hnd : needS op = 1 := by unfold needS; rw [if_neg h1, if_neg h2, if_neg h3]
    split at h
    · rename_i hc
      rw [if_pos hc]
      have e : op.at_.toNat = a := by omega
      have e2 : (op.at_ + 1).toNat = a + 1 := by omega
      exact ⟨ha, fun h => by omega, fun h => by omega, by omega, fun h => by omega, fun h => by omega, fun h => by omega, fun h => by omega, fun _ => ⟨by omega, .mk (l.getD a zeroT).kind op.text (l.getD a zeroT).cols (l.getD a zeroT).kids, by rw [e, e2], rfl⟩⟩
    · simp at h
  · cases hf
end Go.Proofs.Yteckkamlaibjbaa
/- Plain: the image of a position is a position, and the order is kept. -/
set_option linter.unusedVariables false
set_option linter.unusedSimpArgs false
namespace Go.Proofs.Yteckkamlaibjbaa
open Go.RowKit

set_option maxHeartbeats 1000000 in
theorem flat_in {l l' : List Tree} {op : OpD} {a : Nat} (hd : Done l l' op a) (o : Int) (after : Bool) (h : posIn (rowT l) [o] = true) : posIn (rowT l') (offsetS op o after) = true := by
  obtain ⟨h0, h1⟩ := (row_one l o).1 h
  obtain ⟨hat, hn, hK, ⟨hk1, hk5⟩, H1, H2, H3, H4, H5⟩ := hd
  unfold offsetS
  rw [hat]
  split
  · rename_i hc
    obtain ⟨h2, rfl⟩ := H1 hc.1
    clear H1 H2 H3 H4 H5
    rw [row_one, splice_len h2]
    omega
  rename_i c1
  split
  · rename_i hc
    obtain ⟨h2, rfl⟩ := H2 hc.1
    clear H1 H2 H3 H4 H5
    split <;> rw [row_one, splice_len (by omega), List.length_nil] <;> omega
  rename_i c2
  split
  · rename_i hc
    have hn0 := hn (Or.inl hc.1)
    obtain ⟨h2, t, rfl, ⟨hs0, hs1⟩, hkid⟩ := H3 hc.1
    clear H1 H2 H3 H4 H5
    split
    · rename_i hlt
      have hi : itemD (spliceS l a (a + op.n.toNat) [t]) a = t := by
        have := splice_mid (l := l) (bs := [t]) (a := a) (b := a + op.n.toNat) (i := 0) (by omega) (by simp)
        rw [Nat.add_zero] at this
        rw [this]; rfl
      rw [row_deep, hi, hkid, row_one, splice_len (by omega)]
      refine ⟨by simp; omega, ⟨hs0, hs1⟩, by omega, ?_⟩
      simp
      omega
    · rw [row_one, splice_len (by omega)]
      simp
      omega
  rename_i c3
  split
  · rename_i hc
    obtain ⟨h2, t, rfl, _, _⟩ := H3 hc.1
    clear H1 H2 H3 H4 H5
    have hn0 := hn (Or.inl hc.1)
    rw [row_one, splice_len (by omega)]
    simp
    omega
  rename_i c4
  split
  · rename_i hc
    have hn0 := hn (Or.inr hc.1)
    obtain ⟨h2, rfl, hlen, _, _⟩ := H4 hc.1
    clear H1 H2 H3 H4 H5
    rw [row_one, splice_len (by omega)]
    omega
  rename_i c5
  rw [row_one]
  refine ⟨h0, ?_⟩
  have hk : op.kind = 1 ∨ op.kind = 2 ∨ op.kind = 3 ∨ op.kind = 4 ∨ op.kind = 5 := by omega
  rcases hk with hk | hk | hk | hk | hk
  · obtain ⟨h2, rfl⟩ := H1 hk
    clear H1 H2 H3 H4 H5
    rw [splice_len h2]
    omega
  · obtain ⟨h2, rfl⟩ := H2 hk
    clear H1 H2 H3 H4 H5
    rw [splice_len (by omega), List.length_nil]
    have : o ≤ a := by
      rcases Int.lt_or_le (a : Int) o with h3 | h3
      · exact absurd ⟨hk, h3⟩ c2
      · exact h3
    omega
  · obtain ⟨h2, t, rfl, _, _⟩ := H3 hk
    clear H1 H2 H3 H4 H5
    have hn0 := hn (Or.inl hk)
    rw [splice_len (by omega)]
    have : o ≤ a := by
      rcases Int.lt_or_le (a : Int) o with h3 | h3
      · exact absurd ⟨hk, h3⟩ c3
      · exact h3
    simp
    omega
  · obtain ⟨h2, rfl, hlen, _, _⟩ := H4 hk
    clear H1 H2 H3 H4 H5
    rw [splice_len (by omega)]
    have : o ≤ a := by
      rcases Int.lt_or_le (a : Int) o with h3 | h3
      · exact absurd ⟨hk, h3⟩ c5
      · exact h3
    omega
  · obtain ⟨h2, t, rfl, _⟩ := H5 hk
    clear H1 H2 H3 H4 H5
    rw [splice_len (by omega)]
    simp
    omega

set_option maxHeartbeats 1000000 in
theorem deep_in {l l' : List Tree} {op : OpD} {a : Nat} (hd : Done l l' op a) (i s y : Int) (r : List Int) (h : posIn (rowT l) (i :: s :: y :: r) = true) : posIn (rowT l') (insideS op i s (y :: r)) = true := by
  obtain ⟨i', rfl⟩ := row_nonneg h
  obtain ⟨hil, ⟨hs0, hs1⟩, hq⟩ := (row_deep l i' s (y :: r)).1 h
  obtain ⟨hat, hn, hK, ⟨hk1, hk5⟩, H1, H2, H3, H4, H5⟩ := hd
  -- an item that is at j' in l'
  have go : ∀ j' : Nat, j' < l'.length → itemD l' j' = itemD l i' → posIn (rowT l') ((j' : Int) :: s :: y :: r) = true := fun j' h1 h2 => by
    rw [row_deep, h2]; exact ⟨h1, ⟨hs0, hs1⟩, hq⟩
  unfold insideS
  rw [hat]
  simp only [List.cons_append, List.nil_append]
  split
  · rename_i hlt
    have hia : i' < a := by omega
    have hk : op.kind = 1 ∨ op.kind = 2 ∨ op.kind = 3 ∨ op.kind = 4 ∨ op.kind = 5 := by omega
    rcases hk with hk | hk | hk | hk | hk
    · obtain ⟨h2, rfl⟩ := H1 hk
      clear H1 H2 H3 H4 H5
      exact go i' (by rw [splice_len h2]; omega) (splice_lo h2 hia)
    · obtain ⟨h2, rfl⟩ := H2 hk
      clear H1 H2 H3 H4 H5
      exact go i' (by rw [splice_len (by omega)]; omega) (splice_lo (by omega) hia)
    · obtain ⟨h2, t, rfl, _, _⟩ := H3 hk
      clear H1 H2 H3 H4 H5
      exact go i' (by rw [splice_len (by omega)]; omega) (splice_lo (by omega) hia)
    · obtain ⟨h2, rfl, _, _, _⟩ := H4 hk
      clear H1 H2 H3 H4 H5
      exact go i' (by rw [splice_len (by omega)]; omega) (splice_lo (by omega) hia)
    · obtain ⟨h2, t, rfl, _⟩ := H5 hk
      clear H1 H2 H3 H4 H5
      exact go i' (by rw [splice_len (by omega)]; omega) (splice_lo (by omega) hia)
  rename_i hge
  have hia : a ≤ i' := by omega
  split
  · rename_i hk
    obtain ⟨h2, rfl⟩ := H1 hk
    clear H1 H2 H3 H4 H5
    have := splice_hi (l := l) (bs := op.nodes) (a := a) (b := a) (i := i') h2 hia
    have h3 := go (a + op.nodes.length + (i' - a)) (by rw [splice_len h2]; omega) this
    rw [show (((a + op.nodes.length + (i' - a) : Nat)) : Int) = (i' : Int) + op.nodes.length by omega] at h3
    exact h3
  rename_i c1
  split
  · rename_i hk
    obtain ⟨h2, rfl⟩ := H2 hk
    clear H1 H2 H3 H4 H5
    split
    · rw [row_one, splice_len (by omega), List.length_nil]; omega
    · have := splice_hi (l := l) (bs := []) (a := a) (b := a + op.nodes.length) (i := i') (by omega) (by omega)
      have h3 := go (a + 0 + (i' - (a + op.nodes.length))) (by rw [splice_len (by omega), List.length_nil]; omega) this
      rw [show (((a + 0 + (i' - (a + op.nodes.length)) : Nat)) : Int) = (i' : Int) - op.nodes.length by omega] at h3
      exact h3
  rename_i c2
  split
  · rename_i hk
    have hn0 := hn (Or.inl hk)
    obtain ⟨h2, t, rfl, ⟨ht0, ht1⟩, hkid⟩ := H3 hk
    clear H1 H2 H3 H4 H5
    split
    · rename_i hlt
      have hi : itemD (spliceS l a (a + op.n.toNat) [t]) a = t := by
        have := splice_mid (l := l) (bs := [t]) (a := a) (b := a + op.n.toNat) (i := 0) (by omega) (by simp)
        rw [Nat.add_zero] at this
        rw [this]; rfl
      rw [row_deep, hi, hkid]
      refine ⟨by rw [splice_len (by omega)]; simp; omega, ⟨ht0, ht1⟩, ?_⟩
      obtain ⟨d, hd⟩ : ∃ d : Nat, (i' : Int) - a = d := ⟨i' - a, by omega⟩
      rw [hd, row_deep, itemD_drop, itemD_take _ _ _ (by omega), show a + d = i' by omega]
      exact ⟨by simp; omega, ⟨hs0, hs1⟩, hq⟩
    · have := splice_hi (l := l) (bs := [t]) (a := a) (b := a + op.n.toNat) (i := i') (by omega) (by omega)
      have h3 := go (a + 1 + (i' - (a + op.n.toNat))) (by rw [splice_len (by omega)]; simp; omega) this
      rw [show (((a + 1 + (i' - (a + op.n.toNat)) : Nat)) : Int) = (i' : Int) - op.n + 1 by omega] at h3
      exact h3
  rename_i c3
  split
  · rename_i hk
    have hn0 := hn (Or.inr hk.1)
    obtain ⟨h2, rfl, hlen, hsl0, hsl1⟩ := H4 hk.1
    clear H1 H2 H3 H4 H5
    have hia' : i' = a := by omega
    subst hia'
    split
    · rw [row_one, splice_len (by omega)]; omega
    · split
      · rw [row_one, splice_len (by omega)]; omega
      · have hss : s = op.slot := by omega
        subst hss
        simp only [List.headD_cons, List.tail_cons]
        have hq2 : posIn (rowT (kidS (itemD l i') op.slot).kids) (y :: r) = true := by
          rw [← posIn_kids (kidS (itemD l i') op.slot) (rowT (kidS (itemD l i') op.slot).kids) rfl]; exact hq
        cases r with
        | nil =>
          obtain ⟨h3, h4⟩ := (row_one _ _).1 hq2
          rw [row_one, splice_len (by omega)]
          omega
        | cons z r =>
          obtain ⟨y', rfl⟩ := row_nonneg hq2
          obtain ⟨h3, h4, h5⟩ := (row_deep _ _ _ _).1 hq2
          have := splice_mid (l := l) (bs := (kidS (itemD l i') op.slot).kids) (a := i') (b := i' + 1) (i := y') (by omega) h3
          rw [show (i' : Int) + (y' : Int) = ((i' + y' : Nat) : Int) by omega, row_deep, this]
          exact ⟨by rw [splice_len (by omega)]; omega, h4, h5⟩
  rename_i c4
  split
  · rename_i hk
    have hn0 := hn (Or.inr hk)
    obtain ⟨h2, rfl, hlen, hsl0, hsl1⟩ := H4 hk
    clear H1 H2 H3 H4 H5
    have hne : i' ≠ a := fun e => c4 ⟨hk, by omega⟩
    have := splice_hi (l := l) (bs := (kidS (itemD l a) op.slot).kids) (a := a) (b := a + 1) (i := i') (by omega) (by omega)
    have h3 := go (a + (kidS (itemD l a) op.slot).kids.length + (i' - (a + 1))) (by rw [splice_len (by omega)]; omega) this
    rw [show (((a + (kidS (itemD l a) op.slot).kids.length + (i' - (a + 1)) : Nat)) : Int) = (i' : Int) - 1 + op.n by omega] at h3
    exact h3
  · rename_i hk
    obtain ⟨h2, t, rfl, htk⟩ := H5 (by omega)
    clear H1 H2 H3 H4 H5
    rcases Nat.lt_or_ge a i' with h3 | h3
    · have := splice_hi (l := l) (bs := [t]) (a := a) (b := a + 1) (i := i') (by omega) (by omega)
      have h4 := go (a + 1 + (i' - (a + 1))) (by rw [splice_len (by omega)]; simp; omega) this
      rw [show (((a + 1 + (i' - (a + 1)) : Nat)) : Int) = (i' : Int) by omega] at h4
      exact h4
    · obtain rfl : i' = a := by omega
      have hi : itemD (spliceS l i' (i' + 1) [t]) i' = t := splice_mid (l := l) (bs := [t]) (a := i') (b := i' + 1) (i := 0) (by omega) (by simp)
      have hks : kidS t s = kidS (itemD l i') s := by unfold kidS; rw [htk]
      rw [row_deep, hi, hks, htk]
      exact ⟨by rw [splice_len (by omega)]; simp; omega, ⟨hs0, hs1⟩, hq⟩
end Go.Proofs.Yteckkamlaibjbaa
/- Plain: the image keeps the order. -/
set_option linter.unusedVariables false
set_option linter.unusedSimpArgs false
namespace Go.Proofs.Yteckkamlaibjbaa
open Go.RowKit

theorem cmp_cons (x y : Int) (xs ys : List Int) : cmpS (x :: xs) (y :: ys) ≤ 0 ↔ x < y ∨ (x = y ∧ cmpS xs ys ≤ 0) := by
  rw [cmpS]
  split
  · omega
  · split
    · omega
    · omega
theorem cmp_nil (ys : List Int) : cmpS [] ys ≤ 0 := by cases ys <;> simp [cmpS]
theorem cmp_cons_nil (x : Int) (xs : List Int) : ¬ cmpS (x :: xs) [] ≤ 0 := by simp [cmpS]

theorem kindC (k : Int) : k = 1 ∨ k = 2 ∨ k = 3 ∨ k = 4 ∨ (k ≠ 1 ∧ k ≠ 2 ∧ k ≠ 3 ∧ k ≠ 4) := by omega
/-- What the order asks of an operation, and of a position behind its path. -/
structure OrdOk (op : OpD) : Prop where
  n : op.kind = 3 ∨ op.kind = 4 → 0 ≤ op.n
def inKid (op : OpD) : List Int → Prop
  | i :: s :: y :: r => op.kind = 4 → i = op.at_ → s = op.slot → 0 ≤ y ∧ y ≤ op.n ∧ (r ≠ [] → y < op.n)
  | _ => True

set_option maxHeartbeats 4000000 in
theorem ord_ff (op : OpD) (ho : OrdOk op) (x y : Int) (after : Bool) (h : cmpS [x] [y] ≤ 0) : cmpS (offsetS op x after) (offsetS op y after) ≤ 0 := by
  obtain ⟨kind, row, at_, n, nodes, slot, old, text⟩ := op
  have hn := ho.n
  simp only at hn
  rw [cmp_cons] at h
  have hxy : x ≤ y := by omega
  clear h ho
  unfold offsetS
  simp only
  generalize nodes.length = K
  rcases kindC kind with h1 | h1 | h1 | h1 | ⟨h1, h2, h3, h4⟩
  case inr.inr.inr.inr =>
    simp only [h1, h2, h3, h4, false_and, true_and, if_false]
    cases after <;> (try simp only [and_true, and_false, or_false, Bool.false_eq_true]) <;> (repeat' split) <;> simp only [cmp_cons, cmp_nil, cmp_cons_nil, and_true, and_false, or_false, or_true, true_or, true_and, false_and, false_or] <;> first | contradiction | omega
  all_goals
    subst h1
    simp only [Int.reduceEq, false_and, true_and, if_false, if_true, true_implies, false_implies, or_false, or_true, false_or, true_or] at *
    cases after <;> (try simp only [and_true, and_false, or_false, Bool.false_eq_true]) <;> (repeat' split) <;> simp only [cmp_cons, cmp_nil, cmp_cons_nil, and_true, and_false, or_false, or_true, true_or, true_and, false_and, false_or] <;> first | contradiction | omega
set_option maxHeartbeats 4000000 in
theorem ord_fd (op : OpD) (ho : OrdOk op) (x i s y : Int) (r : List Int) (after : Bool) (hk : inKid op (i :: s :: y :: r)) (h : cmpS [x] (i :: s :: y :: r) ≤ 0) : cmpS (offsetS op x after) (insideS op i s (y :: r)) ≤ 0 := by
  obtain ⟨kind, row, at_, n, nodes, slot, old, text⟩ := op
  have hn := ho.n
  simp only [inKid] at hn hk
  rw [cmp_cons] at h
  have hxy : x ≤ i := by omega
  clear h ho
  have hk' : kind = 4 → i = at_ → s = slot → 0 ≤ y ∧ y ≤ n := fun a b c => ⟨(hk a b c).1, (hk a b c).2.1⟩
  clear hk
  unfold offsetS insideS
  simp only [List.cons_append, List.nil_append, List.headD_cons, List.tail_cons]
  generalize nodes.length = K
  rcases kindC kind with h1 | h1 | h1 | h1 | ⟨h1, h2, h3, h4⟩
  case inr.inr.inr.inr =>
    simp only [h1, h2, h3, h4, false_and, true_and, if_false]
    cases after <;> (try simp only [and_true, and_false, or_false, Bool.false_eq_true]) <;> (repeat' split) <;> simp only [cmp_cons, cmp_nil, cmp_cons_nil, and_true, and_false, or_false, or_true, true_or, true_and, false_and, false_or] <;> first | contradiction | omega
  all_goals
    subst h1
    simp only [Int.reduceEq, false_and, true_and, if_false, if_true, true_implies, false_implies, or_false, or_true, false_or, true_or] at *
    cases after <;> (try simp only [and_true, and_false, or_false, Bool.false_eq_true]) <;> (repeat' split) <;> simp only [cmp_cons, cmp_nil, cmp_cons_nil, and_true, and_false, or_false, or_true, true_or, true_and, false_and, false_or] <;> first | contradiction | omega
set_option maxHeartbeats 4000000 in
theorem ord_df (op : OpD) (ho : OrdOk op) (x i s y : Int) (r : List Int) (after : Bool) (hk : inKid op (i :: s :: y :: r)) (h : cmpS (i :: s :: y :: r) [x] ≤ 0) : cmpS (insideS op i s (y :: r)) (offsetS op x after) ≤ 0 := by
  obtain ⟨kind, row, at_, n, nodes, slot, old, text⟩ := op
  have hn := ho.n
  simp only [inKid] at hn hk
  rw [cmp_cons] at h
  simp only [cmp_cons_nil, and_false, or_false] at h
  clear ho
  have hk' : kind = 4 → i = at_ → s = slot → 0 ≤ y ∧ y ≤ n := fun a b c => ⟨(hk a b c).1, (hk a b c).2.1⟩
  have hr : kind = 4 → i = at_ → s = slot → r = [] ∨ y < n := fun a b c => by
    cases r with
    | nil => exact .inl rfl
    | cons z r => exact .inr ((hk a b c).2.2 (by simp))
  clear hk
  unfold offsetS insideS
  simp only [List.cons_append, List.nil_append, List.headD_cons, List.tail_cons]
  generalize nodes.length = K
  have hrn : r = [] ∨ ¬ cmpS r [] ≤ 0 := by
    cases r with
    | nil => exact .inl rfl
    | cons z r => exact .inr (cmp_cons_nil z r)
  rcases hrn with rfl | hrn
  · skip
    rcases kindC kind with h1 | h1 | h1 | h1 | ⟨h1, h2, h3, h4⟩
    case inr.inr.inr.inr =>
      simp only [h1, h2, h3, h4, false_and, true_and, if_false]
      cases after <;> (try simp only [and_true, and_false, or_false, Bool.false_eq_true]) <;> (repeat' split) <;> simp only [cmp_cons, cmp_nil, cmp_cons_nil, and_true, and_false, or_false, or_true, true_or, true_and, false_and, false_or] <;> first | contradiction | omega
    all_goals
      subst h1
      simp only [Int.reduceEq, false_and, true_and, if_false, if_true, true_implies, false_implies, or_false, or_true, false_or, true_or] at *
      cases after <;> (try simp only [and_true, and_false, or_false, Bool.false_eq_true]) <;> (repeat' split) <;> simp only [cmp_cons, cmp_nil, cmp_cons_nil, and_true, and_false, or_false, or_true, true_or, true_and, false_and, false_or] <;> first | contradiction | omega
  · have hr' : kind = 4 → i = at_ → s = slot → y < n := fun a b c => by
      rcases hr a b c with e | e
      · subst e; exact absurd (cmp_nil []) hrn
      · exact e
    clear hr
    rcases kindC kind with h1 | h1 | h1 | h1 | ⟨h1, h2, h3, h4⟩
    case inr.inr.inr.inr =>
      simp only [h1, h2, h3, h4, false_and, true_and, if_false]
      cases after <;> (try simp only [and_true, and_false, or_false, Bool.false_eq_true]) <;> (repeat' split) <;> simp only [cmp_cons, cmp_nil, cmp_cons_nil, and_true, and_false, or_false, or_true, true_or, true_and, false_and, false_or] <;> first | contradiction | omega
    all_goals
      subst h1
      simp only [Int.reduceEq, false_and, true_and, if_false, if_true, true_implies, false_implies, or_false, or_true, false_or, true_or] at *
      cases after <;> (try simp only [and_true, and_false, or_false, Bool.false_eq_true]) <;> (repeat' split) <;> simp only [cmp_cons, cmp_nil, cmp_cons_nil, and_true, and_false, or_false, or_true, true_or, true_and, false_and, false_or] <;> first | contradiction | omega
set_option maxHeartbeats 8000000 in
theorem ord_dd (op : OpD) (ho : OrdOk op) (i s y i' s' y' : Int) (r r' : List Int) (hk : inKid op (i :: s :: y :: r)) (hk' : inKid op (i' :: s' :: y' :: r')) (h : cmpS (i :: s :: y :: r) (i' :: s' :: y' :: r') ≤ 0) : cmpS (insideS op i s (y :: r)) (insideS op i' s' (y' :: r')) ≤ 0 := by
  obtain ⟨kind, row, at_, n, nodes, slot, old, text⟩ := op
  have hn := ho.n
  simp only [inKid] at hn hk hk'
  simp only [cmp_cons] at h
  clear ho
  have hy : kind = 4 → i = at_ → s = slot → 0 ≤ y ∧ y ≤ n := fun a b c => ⟨(hk a b c).1, (hk a b c).2.1⟩
  have hy' : kind = 4 → i' = at_ → s' = slot → 0 ≤ y' ∧ y' ≤ n := fun a b c => ⟨(hk' a b c).1, (hk' a b c).2.1⟩
  have hr : kind = 4 → i = at_ → s = slot → r = [] ∨ y < n := fun a b c => by
    cases r with
    | nil => exact .inl rfl
    | cons z r => exact .inr ((hk a b c).2.2 (by simp))
  clear hk hk'
  have hrn : r = [] ∨ ¬ cmpS r [] ≤ 0 := by
    cases r with
    | nil => exact .inl rfl
    | cons z r => exact .inr (cmp_cons_nil z r)
  unfold insideS
  simp only [List.cons_append, List.nil_append, List.headD_cons, List.tail_cons]
  generalize nodes.length = K
  rcases hrn with rfl | hrn
  · skip
    rcases kindC kind with h1 | h1 | h1 | h1 | ⟨h1, h2, h3, h4⟩
    case inr.inr.inr.inr =>
      simp only [h1, h2, h3, h4, false_and, true_and, if_false]
      (repeat' split) <;> simp only [cmp_cons, cmp_nil, cmp_cons_nil, and_true, and_false, or_false, or_true, true_or, true_and, false_and, false_or] <;> first | contradiction | omega
    all_goals
      subst h1
      simp only [Int.reduceEq, false_and, true_and, if_false, if_true, true_implies, false_implies, or_false, or_true, false_or, true_or] at *
      (repeat' split) <;> simp only [cmp_cons, cmp_nil, cmp_cons_nil, and_true, and_false, or_false, or_true, true_or, true_and, false_and, false_or] <;> first | contradiction | omega
  · have hr' : kind = 4 → i = at_ → s = slot → y < n := fun a b c => by
      rcases hr a b c with e | e
      · subst e; exact absurd (cmp_nil []) hrn
      · exact e
    clear hr
    rcases kindC kind with h1 | h1 | h1 | h1 | ⟨h1, h2, h3, h4⟩
    case inr.inr.inr.inr =>
      simp only [h1, h2, h3, h4, false_and, true_and, if_false]
      (repeat' split) <;> simp only [cmp_cons, cmp_nil, cmp_cons_nil, and_true, and_false, or_false, or_true, true_or, true_and, false_and, false_or] <;> first | contradiction | omega
    all_goals
      subst h1
      simp only [Int.reduceEq, false_and, true_and, if_false, if_true, true_implies, false_implies, or_false, or_true, false_or, true_or] at *
      (repeat' split) <;> simp only [cmp_cons, cmp_nil, cmp_cons_nil, and_true, and_false, or_false, or_true, true_or, true_and, false_and, false_or] <;> first | contradiction | omega
end Go.Proofs.Yteckkamlaibjbaa
