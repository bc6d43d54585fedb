/- Texts put together. -/
import Derived.Test.YtbjcioknfjofkaaGreatMComposeErases22
import Derived.Test.YtbjcioknfjofkaaGreatMComposeErases23
import Derived.Test.YtbjcioknfjofkaaGreatMComposeErases24
import Derived.Test.YtbjcioknfjofkaaGreatMComposeErases35
import Derived.Test.YtbjcioknfjofkaaGreatMComposeErases36
import Derived.Test.YtbjcioknfjofkaaGreatMComposeErases29
import Derived.Test.YtbjcioknfjofkaaGreatMComposeErases40
set_option linter.unusedVariables false
set_option linter.unusedSimpArgs false
namespace Go.Proofs.YtbjcioknfjofkaaGreat
open Go.RowKit
structure RecD where
  ops : List OpD
  bp : List Int
  bm : List Int
  ap : List Int
  am : List Int
def recZ : RecD := ⟨[], [], [], [], []⟩
def noT : ByteArray := ⟨#[]⟩
def delOp (row : List Int) (a : Int) (l : List Tree) : OpD := ⟨2, row, a, 0, l, 0, noT, noT⟩
def doneS (t : Tree) (p m : List Int) (ops : List OpD) (pos : List Int) : RecD × Int := if (applyAllS t ops).2 = 0 then (⟨ops, p, m, pos, []⟩, 0) else (recZ, 6)
def cutS (t : Tree) (r : List Int × Int × Int) : List OpD := if (itemsR t r.1 r.2.1 r.2.2).1.length = 0 then [] else [delOp r.1 r.2.1 (itemsR t r.1 r.2.1 r.2.2).1]
def itemRes (t : Tree) (p : List Int) (i : Int) : Tree × Int :=
  if (rowRes t p).2 ≠ 0 then (zeroT, (rowRes t p).2) else if i < 0 ∨ ((rowRes t p).1.kids.length : Int) ≤ i then (zeroT, 2) else (itemD (rowRes t p).1.kids i.toNat, 0)
structure AroD where
  row : List Int
  at_ : Int
  own : Int
  item : Tree
def aroS (t : Tree) (p : List Int) : Option AroD :=
  if p.length < 3 then none else some ⟨p.take (p.length - 3), p.getD (p.length - 3) 0, p.getD (p.length - 2) 0, (itemRes t (p.take (p.length - 3)) (p.getD (p.length - 3) 0)).1⟩
def contS : List Tree → Int → Int → Bool
  | [], _, _ => false
  | k :: ks, i, but => (decide (i ≠ but) && decide (0 < k.kids.length)) || contS ks (i + 1) but
def unwS (x : AroD) : OpD := ⟨4, x.row, x.at_, (kidS x.item x.own).kids.length, [filledS x.item x.own.toNat []], x.own, noT, noT⟩
def stepE (t : Tree) (p m : List Int) (back : Bool) : RecD × Int :=
  if (stepR t p (if back then -1 else 1)).2 ≠ 0 then (recZ, (stepR t p (if back then -1 else 1)).2) else doneS t p m [] (stepR t p (if back then -1 else 1)).1
def eraseS (t : Tree) (p m : List Int) (back : Bool) : RecD × Int :=
  if (ofS t p m).2 ≠ 0 then (recZ, (ofS t p m).2)
  else if (ofS t p m).1.2.1 < (ofS t p m).1.2.2 then doneS t p m (cutS t (ofS t p m).1) ((ofS t p m).1.1 ++ [(ofS t p m).1.2.1])
  else
    let row := (rowRes t p.dropLast).1.kids
    let i := if back then p.getLastD 0 - 1 else p.getLastD 0
    if 0 ≤ i ∧ i < row.length then
      (if contS (itemD row i.toNat).kids 0 (-1) = false then doneS t p m [delOp p.dropLast i [itemD row i.toNat]] (p.dropLast ++ [i]) else stepE t p m back)
    else match aroS t p with
      | some x => if contS x.item.kids 0 x.own = false then doneS t p m [unwS x] (x.row ++ [if back then x.at_ else x.at_ + (unwS x).n]) else stepE t p m back
      | none => stepE t p m back
end Go.Proofs.YtbjcioknfjofkaaGreat
set_option linter.unusedVariables false
set_option linter.unusedSimpArgs false
namespace Go.Proofs.YtbjcioknfjofkaaGreat
open Go.RowKit
theorem cmp_out_l : (row p x y : List Int) → ¬ row <+: p → (cmpS p (row ++ x) ≤ 0 ↔ cmpS p (row ++ y) ≤ 0)
  | [], p, x, y, h => absurd List.nil_prefix h
  | a :: row, [], x, y, h => by simp [cmpS]
  | a :: row, b :: p, x, y, h => by
    simp only [List.cons_append, cmp_cons]
    by_cases hb : b = a
    · subst hb
      have := cmp_out_l row p x y (fun hp => h (by obtain ⟨s, rfl⟩ := hp; exact ⟨s, rfl⟩))
      rw [this]
    · simp [hb]
theorem cmp_out_r : (row p x y : List Int) → ¬ row <+: p → (cmpS (row ++ x) p ≤ 0 ↔ cmpS (row ++ y) p ≤ 0)
  | [], p, x, y, h => absurd List.nil_prefix h
  | a :: row, [], x, y, h => by simp [cmpS]
  | a :: row, b :: p, x, y, h => by
    simp only [List.cons_append, cmp_cons]
    by_cases hb : a = b
    · subst hb
      have := cmp_out_r row p x y (fun hp => h (by obtain ⟨s, rfl⟩ := hp; exact ⟨s, rfl⟩))
      rw [this]
    · simp [hb]
end Go.Proofs.YtbjcioknfjofkaaGreat
set_option linter.unusedVariables false
set_option linter.unusedSimpArgs false
namespace Go.Proofs.YtbjcioknfjofkaaGreat
open Go.RowKit
theorem find_some (t : Tree) (i k : Int) (p : List Int) (hi : 0 ≤ i ∧ i.toNat < t.kids.length) (hk : 0 ≤ k ∧ k.toNat < (kidS t i).kids.length) : findS t (i :: k :: p) = findS (kidS (kidS t i) k) p := by
  rw [findS, dif_pos hi]
  have e : kidS t i = t.kids[i.toNat] := kidS_get hi.2
  rw [e] at hk ⊢
  rw [dif_pos hk, kidS_get hk.2]
theorem find_append : (p : List Int) → (t : Tree) → (q : List Int) → (findS t p).2 = true → findS t (p ++ q) = findS (findS t p).1 q
  | [], t, q, _ => rfl
  | [_], t, q, h => by simp [findS] at h
  | i :: k :: p, t, q, h => by
    obtain ⟨hi, hk, he⟩ := find_step t i k p h
    rw [he] at h ⊢
    show findS t (i :: k :: (p ++ q)) = _
    rw [find_some t i k (p ++ q) hi hk]
    exact find_append p _ q h
theorem find_put_in : (p : List Int) → (t : Tree) → (l : List Tree) → (q : List Int) → (findS t p).2 = true → findS (putS t p l) (p ++ q) = findS (rowT l) q
  | [], t, l, q, _ => rfl
  | [_], t, l, q, h => by simp [findS] at h
  | i :: k :: p, t, l, q, h => by
    obtain ⟨hi, hk, he⟩ := find_step t i k p h
    rw [he] at h
    show findS (putS t (i :: k :: p) l) (i :: k :: (p ++ q)) = _
    rw [putS]
    rw [find_some _ i k (p ++ q) (by rw [replS_len]; exact hi) (by rw [replS_same hi.2, replS_len]; exact hk)]
    rw [replS_same hi.2, replS_same hk.2]
    exact find_put_in p _ l q h
theorem pos_find : (p : List Int) → (t : Tree) → (o : Int) → posIn t (p ++ [o]) = true → (findS t p).2 = true
  | [], t, o, _ => rfl
  | [i], t, o, h => by have := posIn_odd _ _ h; simp at this
  | i :: k :: p, t, o, h => by
    have h' : posIn t (i :: k :: (p ++ [o])) = true := h
    rw [posIn_step] at h'
    simp only [Bool.and_eq_true, decide_eq_true_eq] at h'
    rw [find_some t i k p h'.1 h'.2.1]
    exact pos_find p _ o h'.2.2
end Go.Proofs.YtbjcioknfjofkaaGreat
set_option linter.unusedVariables false
set_option linter.unusedSimpArgs false
namespace Go.Proofs.YtbjcioknfjofkaaGreat
open Go.RowKit
theorem find_prefix : (p : List Int) → (t : Tree) → (q : List Int) → p.length % 2 = 0 → (findS t (p ++ q)).2 = true → (findS t p).2 = true
  | [], t, q, _, _ => rfl
  | [_], t, q, h, _ => by simp at h
  | i :: k :: p, t, q, h, hf => by
    have hf' : (findS t (i :: k :: (p ++ q))).2 = true := hf
    obtain ⟨hi, hk, he⟩ := find_step t i k (p ++ q) hf'
    rw [he] at hf'
    rw [find_some t i k p hi hk]
    exact find_prefix p _ q (by simp at h; omega) hf'
theorem pos_last {t : Tree} {p : List Int} {o : Int} (h : posIn t (p ++ [o]) = true) : (findS t p).2 = true ∧ 0 ≤ o ∧ o ≤ (findS t p).1.kids.length := by
  have h1 := pos_find p t o h
  rw [posIn_find p t [o] h1, posIn_one] at h
  exact ⟨h1, by simpa using h⟩
theorem two_last {p : List Int} (h : 2 ≤ p.length) : ∃ q i s, p = q ++ [i, s] := by
  obtain ⟨p1, s, rfl⟩ : ∃ p1 s, p = p1 ++ [s] := ⟨p.dropLast, p.getLast (by intro e; subst e; simp at h), (List.dropLast_concat_getLast _).symm⟩
  simp at h
  obtain ⟨q, i, rfl⟩ : ∃ q i, p1 = q ++ [i] := ⟨p1.dropLast, p1.getLast (by intro e; subst e; simp at h), (List.dropLast_concat_getLast _).symm⟩
  exact ⟨q, i, s, by simp⟩
theorem pos_around {t : Tree} {q : List Int} {i s o : Int} (h : posIn t (q ++ [i, s] ++ [o]) = true) :
    (findS t q).2 = true ∧ (0 ≤ i ∧ i.toNat < (findS t q).1.kids.length) ∧ (0 ≤ s ∧ s.toNat < (kidS (findS t q).1 i).kids.length) ∧ (findS t (q ++ [i, s])).1 = kidS (kidS (findS t q).1 i) s ∧ 0 ≤ o ∧ o ≤ (kidS (kidS (findS t q).1 i) s).kids.length := by
  obtain ⟨h1, h2, h3⟩ := pos_last h
  have he : q.length % 2 = 0 := by have := find_even _ _ h1; simp at this; omega
  have h4 := find_prefix q t [i, s] he h1
  have h5 := find_append q t [i, s] h4
  rw [h5] at h1
  obtain ⟨hi, hk, h6⟩ := find_step _ i s [] h1
  have h7 : (findS t (q ++ [i, s])).1 = kidS (kidS (findS t q).1 i) s := by rw [h5, h6]; rfl
  rw [h7] at h3
  exact ⟨h4, hi, hk, h7, h2, h3⟩
theorem rowRes_ok {t : Tree} {p : List Int} (hv : validS t = true) (h : (findS t p).2 = true) : rowRes t p = ((findS t p).1, 0) := by
  unfold rowRes; rw [if_neg (by simp [hv]), if_neg (by simp [h])]
theorem ext_bd (x : Int) (a : List Int) : x ≤ extS (x :: a) ∧ extS (x :: a) ≤ x + 1 ∧ (a = [] → extS (x :: a) = x) := by
  unfold extS
  cases a <;> simp <;> omega
theorem ext_pos {t : Tree} {x : Int} {a : List Int} (h : posIn t (x :: a) = true) : 0 ≤ x ∧ x ≤ extS (x :: a) ∧ extS (x :: a) ≤ t.kids.length := by
  obtain ⟨b1, b2, b3⟩ := ext_bd x a
  match a, h with
  | [], h => rw [posIn_one] at h; have h := of_decide_eq_true h; rw [b3 rfl]; exact ⟨h.1, Int.le_refl _, h.2⟩
  | k :: q, h =>
    rw [posIn_step] at h
    simp only [Bool.and_eq_true, decide_eq_true_eq] at h
    refine ⟨h.1.1, b1, ?_⟩
    have := h.1.2
    omega
theorem bt_ok : (a : List Int) → (t : Tree) → (b : List Int) → posIn t a = true → posIn t b = true →
    (findS t (btS a b).1).2 = true ∧ 0 ≤ (btS a b).2.1 ∧ (btS a b).2.1 ≤ (btS a b).2.2 ∧ (btS a b).2.2 ≤ (findS t (btS a b).1).1.kids.length
  | [], t, b, ha, hb => by simp [posIn] at ha
  | [x], t, b, ha, hb => bt_base [x] t b ha hb (by unfold comS; rfl)
  | [x, y], t, b, ha, hb => by simp [posIn] at ha
  | i :: s :: x :: a, t, [], ha, hb => by simp [posIn] at hb
  | i :: s :: x :: a, t, [y], ha, hb => bt_base _ t [y] ha hb (by unfold comS; rfl)
  | i :: s :: x :: a, t, [y, z], ha, hb => by simp [posIn] at hb
  | i :: s :: x :: a, t, j :: k :: y :: b, ha, hb => by
    by_cases he : i = j ∧ s = k
    · obtain ⟨rfl, rfl⟩ := he
      have e1 : btS (i :: s :: x :: a) (i :: s :: y :: b) = (i :: s :: (btS (x :: a) (y :: b)).1, (btS (x :: a) (y :: b)).2) := by
        unfold btS
        rw [comS, if_pos ⟨rfl, rfl⟩]
        rfl
      rw [posIn_step] at ha hb
      simp only [Bool.and_eq_true, decide_eq_true_eq] at ha hb
      rw [e1, find_some t i s _ ha.1 ha.2.1]
      exact bt_ok (x :: a) _ (y :: b) ha.2.2 hb.2.2
    · exact bt_base _ t _ ha hb (by rw [comS, if_neg he])
where
  bt_base (a : List Int) (t : Tree) (b : List Int) (ha : posIn t a = true) (hb : posIn t b = true) (h : comS a b = 0) :
      (findS t (btS a b).1).2 = true ∧ 0 ≤ (btS a b).2.1 ∧ (btS a b).2.1 ≤ (btS a b).2.2 ∧ (btS a b).2.2 ≤ (findS t (btS a b).1).1.kids.length := by
    unfold btS
    rw [h]
    match a, b, ha, hb with
    | [], _, ha, _ => simp [posIn] at ha
    | _ :: _, [], _, hb => simp [posIn] at hb
    | x :: a, y :: b, ha, hb =>
      have h1 := ext_pos ha
      have h2 := ext_pos hb
      simp only [List.take_zero, List.drop_zero, List.getD_cons_zero, findS]
      refine ⟨trivial, by omega, by omega, by omega⟩
theorem of_ok {t : Tree} {p m : List Int} (h : (ofS t p m).2 = 0) : validS t = true ∧ posIn t p = true ∧ (m.length = 0 ∨ posIn t m = true) ∧
    (findS t (ofS t p m).1.1).2 = true ∧ 0 ≤ (ofS t p m).1.2.1 ∧ (ofS t p m).1.2.1 ≤ (ofS t p m).1.2.2 ∧ (ofS t p m).1.2.2 ≤ (findS t (ofS t p m).1.1).1.kids.length := by
  unfold ofS at h ⊢
  by_cases hm : m.length = 0
  · rw [if_pos hm] at h ⊢
    unfold betV at h ⊢
    split at h
    · simp at h
    · rename_i h1
      rw [if_neg h1]
      split at h
      · simp at h
      · rename_i h2
        rw [if_neg h2]
        have h3 : posIn t p = true := by simpa using h2
        exact ⟨by simpa using h1, h3, .inl hm, bt_ok p t p h3 h3⟩
  · rw [if_neg hm] at h ⊢
    unfold betV at h ⊢
    split at h
    · simp at h
    · rename_i h1
      rw [if_neg h1]
      split at h
      · simp at h
      · rename_i h2
        rw [if_neg h2]
        have h3 : posIn t p = true ∧ posIn t m = true := by simpa using h2
        exact ⟨by simpa using h1, h3.1, .inr h3.2, bt_ok p t m h3.1 h3.2⟩
theorem items_of {t : Tree} {p m : List Int} (h : (ofS t p m).2 = 0) : (itemsR t (ofS t p m).1.1 (ofS t p m).1.2.1 (ofS t p m).1.2.2).2 = 0 ∧ ((itemsR t (ofS t p m).1.1 (ofS t p m).1.2.1 (ofS t p m).1.2.2).1.length : Int) = (ofS t p m).1.2.2 - (ofS t p m).1.2.1 := by
  obtain ⟨hv, _, _, h1, h2, h3, h4⟩ := of_ok h
  unfold itemsR
  rw [rowRes_ok hv h1, if_neg (by simp), if_neg (by simp only; omega)]
  simp
  omega
end Go.Proofs.YtbjcioknfjofkaaGreat
set_option linter.unusedVariables false
set_option linter.unusedSimpArgs false
namespace Go.Proofs.YtbjcioknfjofkaaGreat
open Go.RowKit
def sgnS (b : Bool) : Int := if b then -1 else 1
def measS (s : Int) (t : Tree) (p : List Int) : Nat := ((allS [] t).filter (fun x => decide (0 < s * cmpS x p))).length
theorem nodup_len : (A B : List (List Int)) → A.Nodup → (∀ a ∈ A, a ∈ B) → A.length ≤ B.length
  | [], B, _, _ => Nat.zero_le _
  | a :: A, B, h, hs => by
    have ha := hs a (List.mem_cons_self ..)
    have h2 := List.nodup_cons.1 h
    have h3 := nodup_len A (B.erase a) h2.2 (fun x hx => (List.mem_erase_of_ne (fun e => h2.1 (by rw [← e]; exact hx))).2 (hs x (List.mem_cons_of_mem _ hx)))
    rw [List.length_erase_of_mem ha] at h3
    have := List.length_pos_of_mem ha
    simp only [List.length_cons]
    omega
theorem allS_nodup (t : Tree) : (allS [] t).Nodup := (allS_sorted [] t).imp (fun h => ltS_ne h)
theorem meas_lt {s : Int} {t t' : Tree} {p p' z : List Int} (f : List Int → List Int) (h : ∀ x, posIn t' x = true → 0 < s * cmpS x p' → posIn t (f x) = true ∧ 0 < s * cmpS (f x) p ∧ f x ≠ z) (hf : ∀ x y, f x = f y → x = y) (hz : posIn t z = true) (hzp : 0 < s * cmpS z p) : measS s t' p' < measS s t p := by
  have h1 := nodup_len (z :: ((allS [] t').filter (fun x => decide (0 < s * cmpS x p'))).map f) ((allS [] t).filter (fun x => decide (0 < s * cmpS x p))) ?_ ?_
  · unfold measS
    simp only [List.length_cons, List.length_map] at h1
    omega
  · rw [List.nodup_cons]
    refine ⟨fun hm => ?_, ?_⟩
    · obtain ⟨x, hx, e⟩ := List.mem_map.1 hm
      rw [List.mem_filter, mem_all] at hx
      exact (h x hx.1 (by simpa using hx.2)).2.2 e
    · exact List.pairwise_map.2 (((allS_nodup t').sublist List.filter_sublist).imp (fun hne e => hne (hf _ _ e)))
  · intro a ha
    rw [List.mem_filter, mem_all]
    rcases List.mem_cons.1 ha with rfl | ha
    · exact ⟨hz, by simpa using hzp⟩
    · obtain ⟨x, hx, rfl⟩ := List.mem_map.1 ha
      rw [List.mem_filter, mem_all] at hx
      have := h x hx.1 (by simpa using hx.2)
      exact ⟨this.1, by simpa using this.2.1⟩
theorem next_is {t : Tree} {p a : List Int} (hv : validS t = true) (hp : posIn t p = true) (ha : posIn t a = true) (h1 : 0 < cmpS a p) (h2 : ∀ x, posIn t x = true → 0 < cmpS x p → cmpS a x ≤ 0) : nextR t p = (a, 0) := by
  unfold nextR
  rw [hv, hp, if_pos (by rfl)]
  have hs := allS_sorted [] t
  cases hn : nextS (allS [] t) p with
  | none =>
    unfold nextS at hn
    have := List.find?_eq_none.1 hn a (mem_all.2 ha)
    simp [h1] at this
  | some x =>
    unfold nextS at hn
    obtain ⟨hx, pre, bs, e, h3⟩ := List.find?_eq_some_iff_append.1 hn
    have ham := mem_all.2 ha
    rw [e] at ham hs
    have hxm : posIn t x = true := mem_all.1 (by rw [e]; simp)
    have hx' : 0 < cmpS x p := by simpa using hx
    rcases List.mem_append.1 ham with h | h
    · have := h3 a h
      simp [h1] at this
    · rcases List.mem_cons.1 h with rfl | h
      · rfl
      · have h4 : ltS x a := (List.pairwise_cons.1 (List.pairwise_append.1 hs).2.1).1 a h
        have h5 := h2 x hxm hx'
        unfold ltS at h4
        rw [cmpS_swap] at h5
        omega
theorem next_no {t : Tree} {p : List Int} (hv : validS t = true) (hp : posIn t p = true) (h : ∀ x, posIn t x = true → ¬ 0 < cmpS x p) : nextR t p = ([], 8) := by
  unfold nextR
  rw [hv, hp, if_pos (by rfl)]
  have : nextS (allS [] t) p = none := List.find?_eq_none.2 (fun x hx => by simpa using h x (mem_all.1 hx))
  rw [this]
theorem before_take {t : Tree} {p : List Int} (hp : posIn t p = true) : ∃ pre, (allS [] t).takeWhile (fun q => decide (q ≠ p)) = pre ∧ pre.Pairwise ltS ∧ (∀ x ∈ pre, posIn t x = true ∧ cmpS x p < 0) ∧ ∀ x, posIn t x = true → cmpS x p < 0 → x ∈ pre := by
  have hs := allS_sorted [] t
  obtain ⟨i, hi, e⟩ := List.mem_iff_getElem.1 (mem_all.2 hp)
  refine ⟨_, rfl, ?_⟩
  rw [take_at hs hi e]
  have h := split_lt hs hi
  rw [e] at h
  refine ⟨hs.sublist (List.take_sublist _ _), fun x hx => ⟨mem_all.1 (List.mem_of_mem_take hx), h.1 x hx⟩, fun x hx hc => ?_⟩
  have hm := mem_all.2 hx
  rw [← List.take_append_drop i (allS [] t), List.mem_append] at hm
  rcases hm with hm | hm
  · exact hm
  · rw [List.drop_eq_getElem_cons hi, e] at hm
    rcases List.mem_cons.1 hm with rfl | hm
    · rw [cmpS_self] at hc; omega
    · have := h.2 x hm
      unfold ltS at this
      rw [cmpS_swap] at hc
      omega
theorem prev_is {t : Tree} {p a : List Int} (hv : validS t = true) (hp : posIn t p = true) (ha : posIn t a = true) (h1 : cmpS a p < 0) (h2 : ∀ x, posIn t x = true → cmpS x p < 0 → cmpS x a ≤ 0) : prevR t p = (a, 0) := by
  unfold prevR lastO
  rw [hv, hp, if_pos (by rfl)]
  obtain ⟨pre, e, hs, h3, h4⟩ := before_take hp
  rw [e]
  have ham := h4 a ha h1
  cases hl : pre.getLast? with
  | none => rw [List.getLast?_eq_none_iff] at hl; subst hl; cases ham
  | some y =>
    obtain ⟨bs, rfl⟩ := List.getLast?_eq_some_iff.1 hl
    rcases List.mem_append.1 ham with h | h
    · have h5 : ltS a y := (List.pairwise_append.1 hs).2.2 a h y (by simp)
      have h6 := h3 y (by simp)
      have h7 := h2 y h6.1 h6.2
      unfold ltS at h5
      rw [cmpS_swap] at h7
      omega
    · rw [List.mem_singleton.1 h]; rfl
theorem prev_no {t : Tree} {p : List Int} (hv : validS t = true) (hp : posIn t p = true) (h : ∀ x, posIn t x = true → ¬ cmpS x p < 0) : prevR t p = ([], 8) := by
  unfold prevR lastO
  rw [hv, hp, if_pos (by rfl)]
  obtain ⟨pre, e, hs, h3, h4⟩ := before_take hp
  rw [e]
  cases pre with
  | nil => rfl
  | cons y pre => exact absurd (h3 y (by simp)).2 (h y (h3 y (by simp)).1)
theorem step_is {t : Tree} {p a : List Int} (b : Bool) (hv : validS t = true) (hp : posIn t p = true) (ha : posIn t a = true) (h1 : 0 < sgnS b * cmpS a p) (h2 : ∀ x, posIn t x = true → 0 < sgnS b * cmpS x p → sgnS b * cmpS a x ≤ 0) : stepR t p (if b then -1 else 1) = (a, 0) := by
  cases b
  · simp only [sgnS, Bool.false_eq_true, if_false, Int.one_mul] at *
    rw [← next_eq]; exact next_is hv hp ha h1 h2
  · simp only [sgnS, if_true] at *
    rw [← prev_eq]
    refine prev_is hv hp ha (by omega) (fun x hx hc => ?_)
    have := h2 x hx (by omega)
    rw [cmpS_swap x a] at this
    omega
theorem step_no {t : Tree} {p : List Int} (b : Bool) (hv : validS t = true) (hp : posIn t p = true) (h : ∀ x, posIn t x = true → ¬ 0 < sgnS b * cmpS x p) : stepR t p (if b then -1 else 1) = ([], 8) := by
  cases b
  · simp only [sgnS, Bool.false_eq_true, if_false, Int.one_mul] at *
    rw [← next_eq]; exact next_no hv hp h
  · simp only [sgnS, if_true] at *
    rw [← prev_eq]
    exact prev_no hv hp (fun x hx hc => h x hx (by omega))
theorem step_lt {t : Tree} {p a : List Int} (b : Bool) (ha : posIn t a = true) (h1 : 0 < sgnS b * cmpS a p) : measS (sgnS b) t a < measS (sgnS b) t p := by
  refine meas_lt id (z := a) (fun x hx hc => ⟨hx, ?_, ?_⟩) (fun _ _ h => h) ha h1
  · show 0 < sgnS b * cmpS x p
    have r1 := cmpS_trans x a p
    have r2 := cmpS_trans p a x
    have e1 := cmpS_swap x a
    have e2 := cmpS_swap a p
    have e3 := cmpS_swap x p
    cases b <;> simp only [sgnS, Bool.false_eq_true, if_false, if_true, Int.one_mul] at * <;> omega
  · intro e
    have e : x = a := e
    rw [e, cmpS_self] at hc
    omega
end Go.Proofs.YtbjcioknfjofkaaGreat
set_option linter.unusedVariables false
set_option linter.unusedSimpArgs false
namespace Go.Proofs.YtbjcioknfjofkaaGreat
open Go.RowKit
theorem cmpC_cons (x y : Int) (a b : List Int) : cmpS (x :: a) (y :: b) = if x < y then -1 else if y < x then 1 else cmpS a b := by rw [cmpS]
theorem row_hi {u : Tree} : (r : List Int) → posIn u r = true → cmpS r [(u.kids.length : Int)] ≤ 0
  | [], h => by simp [posIn] at h
  | [x], h => by
    rw [posIn_one] at h
    have := of_decide_eq_true h
    rw [cmpC_cons]
    split
    · omega
    · rw [if_neg (by omega)]; simp [cmpS]
  | i :: k :: q, h => by
    rw [posIn_step] at h
    simp only [Bool.and_eq_true, decide_eq_true_eq] at h
    rw [cmpC_cons, if_pos (by omega)]
    omega
theorem row_lo {u : Tree} : (r : List Int) → posIn u r = true → cmpS [0] r ≤ 0
  | [], h => by simp [posIn] at h
  | [x], h => by
    rw [posIn_one] at h
    have := of_decide_eq_true h
    rw [cmpC_cons]
    split
    · omega
    · rw [if_neg (by omega)]; simp [cmpS]
  | i :: k :: q, h => by
    rw [posIn_step] at h
    simp only [Bool.and_eq_true, decide_eq_true_eq] at h
    rw [cmpC_cons]
    split
    · omega
    · rw [if_neg (by omega)]; simp [cmpS]
def bumpS : List Int → List Int
  | [] => []
  | i :: r => (i + 1) :: r
theorem bump_inj {a b : List Int} (h : bumpS a = bumpS b) : a = b := by
  cases a <;> cases b <;> simp [bumpS] at h ⊢
  exact h
def shiftS (q x : List Int) : List Int := if q <+: x then q ++ bumpS (x.drop q.length) else x
theorem shift_in (q r : List Int) : shiftS q (q ++ r) = q ++ bumpS r := by
  unfold shiftS
  rw [if_pos (List.prefix_append _ _), List.drop_left]
theorem shift_out {q x : List Int} (h : ¬ q <+: x) : shiftS q x = x := if_neg h
theorem shift_inj {q x y : List Int} (h : shiftS q x = shiftS q y) : x = y := by
  by_cases hx : q <+: x <;> by_cases hy : q <+: y
  · obtain ⟨u, rfl⟩ := hx
    obtain ⟨v, rfl⟩ := hy
    rw [shift_in, shift_in] at h
    rw [bump_inj (List.append_cancel_left h)]
  · obtain ⟨u, rfl⟩ := hx
    rw [shift_in, shift_out hy] at h
    exact absurd ⟨_, h⟩ hy
  · obtain ⟨v, rfl⟩ := hy
    rw [shift_in, shift_out hx] at h
    exact absurd ⟨_, h.symm⟩ hx
  · rwa [shift_out hx, shift_out hy] at h
theorem take_pos {l : List Tree} {n : Nat} (hn : n ≤ l.length) : (r : List Int) → posIn (rowT (l.take n)) r = true → cmpS r [(n : Int)] < 0 → posIn (rowT l) r = true
  | [], h, _ => by simp [posIn] at h
  | [x], h, hc => by
    rw [row_one] at h ⊢
    rw [List.length_take] at h
    omega
  | i :: k :: q, h, hc => by
    rw [posIn_step] at h ⊢
    simp only [Bool.and_eq_true, decide_eq_true_eq] at h ⊢
    obtain ⟨h1, h2, h3⟩ := h
    have h4 : i.toNat < n := by have := h1.2; simp only [rowT, Tree.kids, List.length_take] at this; omega
    have e : kidS (rowT (l.take n)) i = kidS (rowT l) i := by
      simp only [kidS, rowT, Tree.kids, List.getD_eq_getElem?_getD, List.getElem?_take, if_pos h4]
    rw [e] at h2 h3
    exact ⟨⟨h1.1, by simp only [rowT, Tree.kids]; omega⟩, h2, h3⟩
theorem drop_pos {l : List Tree} (hn : 0 < l.length) : (r : List Int) → posIn (rowT (l.drop 1)) r = true → posIn (rowT l) (bumpS r) = true
  | [], h => by simp [posIn] at h
  | [x], h => by
    rw [bumpS, row_one]
    rw [row_one, List.length_drop] at h
    omega
  | i :: k :: q, h => by
    rw [bumpS, posIn_step]
    rw [posIn_step] at h
    simp only [Bool.and_eq_true, decide_eq_true_eq] at h ⊢
    obtain ⟨h1, h2, h3⟩ := h
    have e : kidS (rowT (l.drop 1)) i = kidS (rowT l) (i + 1) := by
      simp only [kidS, rowT, Tree.kids, List.getD_eq_getElem?_getD, List.getElem?_drop]
      rw [show 1 + i.toNat = (i + 1).toNat by omega]
    rw [e] at h2 h3
    have h4 := h1.2
    simp only [rowT, Tree.kids, List.length_drop] at h4
    exact ⟨⟨by omega, by simp only [rowT, Tree.kids]; omega⟩, h2, h3⟩
theorem pos_row {t : Tree} {q r : List Int} {its : List Tree} (hf : (findS t q).2 = true) (hi : its = (findS t q).1.kids) : posIn t (q ++ r) = posIn (rowT its) r := by
  rw [posIn_find q t r hf]
  exact posIn_kids _ _ (by rw [hi]; rfl) r
theorem cmp_lt_trans {a b c : List Int} (h1 : cmpS a b < 0) (h2 : cmpS b c < 0) : cmpS a c < 0 := ltS_trans h1 h2
theorem rm_lt (b : Bool) {t : Tree} {q p : List Int} {its : List Tree} {n : Nat} (hf : (findS t q).2 = true) (hi : its = (findS t q).1.kids) (hl : its.length = n + 1)
    (hp : 0 < sgnS b * cmpS (q ++ [if b then (n : Int) else 1]) p) :
    measS (sgnS b) (putS t q (if b then its.take n else its.drop 1)) (q ++ [if b then (n : Int) else 0]) < measS (sgnS b) t p := by
  cases b
  · simp only [sgnS, Bool.false_eq_true, if_false, Int.one_mul] at *
    refine meas_lt (shiftS q) (z := q ++ [1]) (fun x hx hc => ?_) (fun _ _ h => shift_inj h) ?_ (by simpa using hp)
    · rw [Int.one_mul] at hc ⊢
      by_cases hq : q <+: x
      · obtain ⟨r, rfl⟩ := hq
        rw [posIn_put_in q t _ r hf] at hx
        rw [shift_in, pos_row hf hi]
        rw [cmpS_append] at hc
        have h1 := drop_pos (by omega) r hx
        have h2 : 0 < cmpS (bumpS r) [1] := by
          cases r with
          | nil => simp [posIn] at hx
          | cons i r =>
            rw [cmpC_cons] at hc
            rw [bumpS, cmpC_cons]
            split at hc
            · omega
            · split at hc
              · rw [if_neg (by omega), if_pos (by omega)]; omega
              · rw [if_neg (by omega), if_neg (by omega)]; exact hc
        refine ⟨h1, ?_, fun e => ?_⟩
        · have h3 : cmpS (q ++ [1]) (q ++ bumpS r) < 0 := by rw [cmpS_append, cmpS_swap]; omega
          have h4 : cmpS p (q ++ [1]) < 0 := by rw [cmpS_swap]; omega
          have := cmp_lt_trans h4 h3
          rw [cmpS_swap] at this; omega
        · rw [List.append_cancel_left e, cmpS_self] at h2; omega
      · rw [posIn_put_out q t _ x hf hq] at hx
        rw [shift_out hq]
        have h1 : ¬ cmpS (q ++ [1]) x ≤ 0 → False := fun h => by
          refine h ((cmp_out_r q x [0] [1] hq).1 ?_)
          rw [cmpS_swap] at hc; omega
        have h2 : cmpS (q ++ [1]) x < 0 := by
          rcases Int.lt_or_le 0 (cmpS (q ++ [1]) x) with h | h
          · exact (h1 (by omega)).elim
          · rcases Int.lt_or_eq_of_le h with h | h
            · exact h
            · exact absurd ⟨_, (cmpS_zero _ _).1 h⟩ hq
        refine ⟨hx, ?_, fun e => hq ⟨_, e.symm⟩⟩
        have h4 : cmpS p (q ++ [1]) < 0 := by rw [cmpS_swap]; omega
        have := cmp_lt_trans h4 h2
        rw [cmpS_swap] at this; omega
    · rw [pos_row hf hi, row_one]
      omega
  · simp only [sgnS, if_true] at *
    refine meas_lt id (z := q ++ [(n : Int)]) (fun x hx hc => ?_) (fun _ _ h => h) ?_ (by simpa using hp)
    · have hc' : cmpS x (q ++ [(n : Int)]) < 0 := by omega
      refine ⟨?_, ?_, fun e => ?_⟩
      · show posIn t x = true
        by_cases hq : q <+: x
        · obtain ⟨r, rfl⟩ := hq
          rw [posIn_put_in q t _ r hf] at hx
          rw [pos_row hf hi]
          rw [cmpS_append] at hc'
          exact take_pos (by omega) r hx hc'
        · rwa [posIn_put_out q t _ x hf hq] at hx
      · show 0 < -1 * cmpS x p
        have := cmp_lt_trans hc' (show cmpS (q ++ [(n : Int)]) p < 0 by omega)
        omega
      · have e : x = q ++ [(n : Int)] := e
        rw [e, cmpS_self] at hc'; omega
    · rw [pos_row hf hi, row_one]
      omega
end Go.Proofs.YtbjcioknfjofkaaGreat
set_option linter.unusedVariables false
set_option linter.unusedSimpArgs false
namespace Go.Proofs.YtbjcioknfjofkaaGreat
open Go.RowKit
def eraseT (t : Tree) (p m : List Int) (back : Bool) : RecD × Int :=
  let row := (rowRes t p.dropLast).1.kids
  let i := if back then p.getLastD 0 - 1 else p.getLastD 0
  if 0 ≤ i ∧ i < row.length then
    (if contS (itemD row i.toNat).kids 0 (-1) = false then doneS t p m [delOp p.dropLast i [itemD row i.toNat]] (p.dropLast ++ [i]) else stepE t p m back)
  else match aroS t p with
    | some x => if contS x.item.kids 0 x.own = false then doneS t p m [unwS x] (x.row ++ [if back then x.at_ else x.at_ + (unwS x).n]) else stepE t p m back
    | none => stepE t p m back
theorem eraseS_not {t : Tree} {p m : List Int} {back : Bool} (h1 : (ofS t p m).2 = 0) (h2 : ¬ (ofS t p m).1.2.1 < (ofS t p m).1.2.2) : eraseS t p m back = eraseT t p m back := by
  unfold eraseS; rw [if_neg (by simp [h1]), if_neg h2]; rfl
theorem com_self : (q : List Int) → (o : Int) → q.length % 2 = 0 → comS (q ++ [o]) (q ++ [o]) = q.length
  | [], o, _ => rfl
  | [_], o, h => by simp at h
  | i :: s :: q, o, h => by
    have ih := com_self q o (by simp at h; omega)
    cases q with
    | nil => simp [comS]
    | cons x q =>
      show comS (i :: s :: x :: (q ++ [o])) (i :: s :: x :: (q ++ [o])) = _
      rw [comS, if_pos ⟨rfl, rfl⟩]
      have ih' : comS (x :: (q ++ [o])) (x :: (q ++ [o])) = (x :: q).length := ih
      rw [ih']; rfl
theorem of_self {t : Tree} {q : List Int} {o : Int} (hv : validS t = true) (hp : posIn t (q ++ [o]) = true) : ofS t (q ++ [o]) [] = ((q, o, o), 0) := by
  have he : q.length % 2 = 0 := by have := posIn_odd _ _ hp; simp at this; omega
  unfold ofS btS
  rw [if_pos (by simp), hv, hp, com_self q o he]
  have g1 : (q ++ [o]).getD q.length 0 = o := by rw [List.getD_eq_getElem?_getD, List.getElem?_append_right (Nat.le_refl _)]; simp
  rw [g1, List.drop_left, List.take_left']
  · simp [betV, extS]
  · rfl
theorem aro_of {t : Tree} {q2 : List Int} {i s o : Int} (hv : validS t = true) (hp : posIn t (q2 ++ [i, s] ++ [o]) = true) : aroS t (q2 ++ [i, s] ++ [o]) = some ⟨q2, i, s, kidS (findS t q2).1 i⟩ := by
  obtain ⟨h4, hi, hk, h7, _⟩ := pos_around hp
  have e1 : (itemRes t q2 i).1 = kidS (findS t q2).1 i := by
    unfold itemRes
    rw [rowRes_ok hv h4, if_neg (by simp), if_neg (by simp only; omega)]
    simp only [itemD, kidS]
  unfold aroS
  rw [if_neg (by simp)]
  simp only [List.append_assoc, List.cons_append, List.nil_append, List.length_append, List.length_cons, List.length_nil, Nat.zero_add, Nat.reduceAdd, Nat.add_sub_cancel, List.take_left']
  have g1 : (q2 ++ [i, s, o]).getD q2.length 0 = i := by rw [List.getD_eq_getElem?_getD, List.getElem?_append_right (Nat.le_refl _)]; simp
  have g2 : (q2 ++ [i, s, o]).getD (q2.length + 3 - 2) 0 = s := by rw [List.getD_eq_getElem?_getD, List.getElem?_append_right (by omega), show q2.length + 3 - 2 - q2.length = 1 by omega]; rfl
  rw [g1, g2, e1]
end Go.Proofs.YtbjcioknfjofkaaGreat
set_option linter.unusedVariables false
set_option linter.unusedSimpArgs false
namespace Go.Proofs.YtbjcioknfjofkaaGreat
theorem itemsS_last (path : List Int) : ∀ (ts : List Tree) (i : Nat), (itemsS path i ts).getLast? = some (path ++ [((i + ts.length : Nat) : Int)])
  | [], i => by simp [itemsS]
  | t :: ts, i => by
    rw [itemsS_cons]
    have h := itemsS_last path ts (i + 1)
    have h0 : itemsS path (i + 1) ts ≠ [] := fun e => by rw [e] at h; cases h
    have e : (path ++ [(i : Int)]) :: (slotsS path i 0 t.kids ++ itemsS path (i + 1) ts) = ((path ++ [(i : Int)]) :: slotsS path i 0 t.kids) ++ itemsS path (i + 1) ts := by simp
    rw [e, List.getLast?_append, h]
    simp only [Option.some_or]
    rw [List.length_cons]
    congr 3
    omega
theorem allS_last (t : Tree) : (allS [] t).getLast? = some [(t.kids.length : Int)] := by
  rw [allS_eq, itemsS_last]; simp
theorem allS_first (t : Tree) : (allS [] t)[0]? = some [0] := by
  rw [allS_eq]; cases h : t.kids with
  | nil => simp [itemsS]
  | cons u us => rw [itemsS_cons]; simp
theorem allS_at_last (t : Tree) (h : (allS [] t).length - 1 < (allS [] t).length) : (allS [] t)[(allS [] t).length - 1] = [(t.kids.length : Int)] := by
  have := allS_last t
  rw [List.getLast?_eq_getElem?, List.getElem?_eq_getElem h] at this
  exact Option.some.inj this
theorem allS_at_first (t : Tree) (h : 0 < (allS [] t).length) : (allS [] t)[0] = [0] := by
  have := allS_first t
  rw [List.getElem?_eq_getElem h] at this
  exact Option.some.inj this
theorem allS_pos (t : Tree) : 0 < (allS [] t).length := by rw [allS_len]; exact cntS_pos t
end Go.Proofs.YtbjcioknfjofkaaGreat
set_option linter.unusedVariables false
set_option linter.unusedSimpArgs false
set_option maxRecDepth 100000
namespace Go.Proofs.YtbjcioknfjofkaaGreat
open Go.RowKit
set_option maxHeartbeats 4000000 in
theorem nItem_any (t : Tree) (p : List Int) (i : Int) (A Ap : Option Addr) (cap cp : Nat) (w : World) (hv : SliceR treeE w (Lt w.heap.size) t.kids (.slice A t.kids.length cap)) (hok : NodeOk t) (hct : countS t ≤ 900000) (hp : IntsR w (Lt w.heap.size) p (.slice Ap p.length cp)) :
    Calls Tryz.prog 70 #[.agg #[.int .i64 t.kind, .string t.text, .int .i64 t.cols, .slice A t.kids.length cap], .slice Ap p.length cp, .int .i64 i] w (RowQ w (itemRes t p i).1 (itemRes t p i).2) := by
  have C1 : Hid (∀ W, Below w.heap.size w W → Calls Tryz.prog 49 #[.agg #[.int .i64 t.kind, .string t.text, .int .i64 t.cols, .slice A t.kids.length cap]] W fun e w' => e = .returned (.bool (validS t)) ∧ Below W.heap.size W w') := fun W hW => nValid_any t A cap W (hv.below hW hW.size) hok.2.2
  have C2 : Hid (∀ W, Below w.heap.size w W → W.cell? ⟨w.heap.size, 0, none⟩ = some (.int .i64 t.kind) ∧ W.cell? ⟨w.heap.size, 1, none⟩ = some (.string t.text) ∧ W.cell? ⟨w.heap.size, 2, none⟩ = some (.int .i64 t.cols) ∧ W.cell? ⟨w.heap.size, 3, none⟩ = some (.slice A t.kids.length cap) → w.heap.size < W.heap.size →
      Calls Tryz.prog 104 #[.pointer (some ⟨w.heap.size, 0, none⟩), .slice Ap p.length cp] W (FindP W (rowS t p))) := fun W hW hc hz => by
    obtain ⟨_, _, rs, hq, h1, h2, h3, h4⟩ := hv.below hW hW.size
    cases hq
    exact nodeFind_any t p w.heap.size 0 A cap rs _ W ⟨by simpa using hc, hz, hok.2.2, h1, h2, h3, h4⟩ (hp.below hW hW.size)
  have C3 : Hid (∀ t', rowS t p = some t' → NodeOk t' ∧ countS t' ≤ 1000000) := fun t' h => by
    obtain ⟨h1, h2⟩ := rowS_ok t p t' h hok ⟨_, hv⟩
    exact ⟨h1, by omega⟩
  have HR : Hid ((validS t = false → itemRes t p i = (zeroT, 1)) ∧ (validS t = true → rowS t p = none → itemRes t p i = (zeroT, 8)) ∧ (∀ x, validS t = true → rowS t p = some x → (i < 0 ∨ (x.kids.length : Int) ≤ i) → itemRes t p i = (zeroT, 2)) ∧ (∀ x, validS t = true → rowS t p = some x → ¬ (i < 0 ∨ (x.kids.length : Int) ≤ i) → itemRes t p i = (itemD x.kids i.toNat, 0))) := by
    refine ⟨fun h => ?_, fun h h1 => ?_, fun x h h1 h2 => ?_, fun x h h1 h2 => ?_⟩
    · unfold itemRes rowRes; rw [if_pos h]; simp
    · rw [find_row] at h1
      unfold itemRes rowRes
      cases hf : (findS t p).2
      · simp [h]
      · rw [hf] at h1; simp at h1
    · rw [find_row] at h1
      cases hf : (findS t p).2
      · rw [hf] at h1; simp at h1
      · rw [hf] at h1
        simp at h1
        have e1 : rowRes t p = (x, 0) := by unfold rowRes; rw [if_neg (by simp [h]), if_neg (by rw [hf]; simp), h1]
        unfold itemRes
        rw [e1, if_neg (by simp), if_pos h2]
    · rw [find_row] at h1
      cases hf : (findS t p).2
      · rw [hf] at h1; simp at h1
      · rw [hf] at h1
        simp at h1
        have e1 : rowRes t p = (x, 0) := by unfold rowRes; rw [if_neg (by simp [h]), if_neg (by rw [hf]; simp), h1]
        unfold itemRes
        rw [e1, if_neg (by simp), if_neg h2]
  generalize itemRes t p i = RES at *
  generalize rowS t p = f at *
  generalize hbv : validS t = bv at *
  clear hv hok hct hp hbv
  obtain ⟨W0, hW0⟩ : ∃ W0, (w.alloc (Obj.cells #[.int .i64 t.kind, .string t.text, .int .i64 t.cols, .slice A t.kids.length cap] 24)).alloc (Obj.cells #[.int .i64 0, .string ⟨#[]⟩, .int .i64 0, .slice none 0 0] 24) = W0 := ⟨_, rfl⟩
  have HW0Z : Hid (W0.heap.size = w.heap.size + 1 + 1) := by show _ = _; rw [← hW0]; simp
  have KB : Hid (∀ W, Below W0.heap.size W0 W → FB W w.heap.size (.int .i64 t.kind) (.string t.text) (.int .i64 t.cols) (.slice A t.kids.length cap) ∧ FB W (w.heap.size + 1) (.int .i64 0) (.string ⟨#[]⟩) (.int .i64 0) (.slice none 0 0) ∧ Below w.heap.size w W) := by
    intro W hW
    have hz : W0.heap.size = w.heap.size + 1 + 1 := HW0Z.out
    refine ⟨FB.below (B := W0.heap.size) ?_ hW (by omega), FB.below (B := W0.heap.size) ?_ hW (by omega), Below.trans ?_ (hW.mono (by omega))⟩
    · rw [← hW0]; exact (FB.new w _ _ _ _ _ rfl).below (blA _ _) (by simp)
    · rw [← hW0]; exact FB.new _ _ _ _ _ _ (by simp)
    · rw [← hW0]; exact blAlloc (blA _ _) _
  obtain ⟨⟨⟨m0, m1, m2, m3⟩, _⟩, ⟨⟨c0, c1, c2, c3⟩, ⟨f0, f1, f2, f3⟩⟩, hbw0⟩ := KB.out W0 (Below.refl _ _)
  have HBW0 := hid hbw0
  clear hbw0
  go_enter Tryz.func70, Tryz.ntmps70
  go_wp2_with fail
  refine (C1.out _ HBW0.out).mono ?_
  rintro e w1 ⟨rfl, hb1⟩
  clear m0 m1 m2 m3 c0 c1 c2 c3 f0 f1 f2 f3
  have HB1 := hid hb1
  obtain ⟨⟨⟨m0, m1, m2, m3⟩, _⟩, ⟨⟨c0, c1, c2, c3⟩, ⟨f0, f1, f2, f3⟩⟩, hbw1⟩ := KB.out w1 hb1
  have HBW1 := hid hbw1
  have HZ1 : Hid (w.heap.size < w1.heap.size) := by show _ < _; have := hb1.size; have := HW0Z.out; omega
  clear hb1 hbw1
  cases bv
  · have HC := hid (And.intro c0 (And.intro c1 (And.intro c2 c3)))
    go_wp2_with fail
    generalize hW : (((w1.setCell _ (.int .i64 0)).setCell _ (.string ⟨#[]⟩)).setCell _ (.int .i64 0)).setCell _ (.slice none 0 0) = W
    obtain ⟨⟨r0, r1, r2, r3⟩, rz, rb, ro, _⟩ := four HC.out.1 HC.out.2.1 HC.out.2.2.1 HC.out.2.2.2 _ _ _ _ hW.symm
    have HB' := hid (rb w.heap.size w (by omega) HBW1.out)
    clear hW ro rb
    refine bodyPost_ret (v := .tuple #[.agg #[.int .i64 0, .string ⟨#[]⟩, .int .i64 0, .slice none 0 0], .int .i64 1]) (by simp [results, Tryz.results70, go_sem, r0, r1, r2, r3]) rfl ?_
    rw [HR.out.1 (by trivial)]
    exact ⟨_, rfl, SliceR.nil_ 0 (Nat.zero_le _) none, HB'.out⟩
  go_wp2_with fail
  refine (C2.out _ HBW1.out ⟨m0, m1, m2, m3⟩ HZ1.out).mono ?_
  rintro e w2 ⟨⟨n2, hw2⟩, hcase⟩
  have hb2 : Below w1.heap.size w1 w2 := by rw [hw2]; exact below_dn (Below.refl _ _) n2
  have HB2 := hid (HB1.out.trans (hb2.mono HB1.out.size))
  clear m0 m1 m2 m3 c0 c1 c2 c3 f0 f1 f2 f3
  obtain ⟨⟨⟨m0, m1, m2, m3⟩, _⟩, ⟨⟨c0, c1, c2, c3⟩, ⟨f0, f1, f2, f3⟩⟩, hbw2⟩ := KB.out w2 HB2.out
  have HBW2 := hid hbw2
  clear hbw2
  rcases hcase with ⟨hno, q, rfl⟩ | ⟨t', g, o, A', cap', rs, hso, rfl, ⟨d0, d1, d2, d3⟩, hgl, htx, hk1, hk2, hk3, hk4⟩
  · have HE := hid (HR.out.2.1 (by trivial) hno)
    clear hb2 hw2 hno
    have HC := hid (And.intro c0 (And.intro c1 (And.intro c2 c3)))
    go_wp2_with fail
    generalize hW : (((w2.setCell _ (.int .i64 0)).setCell _ (.string ⟨#[]⟩)).setCell _ (.int .i64 0)).setCell _ (.slice none 0 0) = W
    obtain ⟨⟨r0, r1, r2, r3⟩, rz, rb, ro, _⟩ := four HC.out.1 HC.out.2.1 HC.out.2.2.1 HC.out.2.2.2 _ _ _ _ hW.symm
    have HB' := hid (rb w.heap.size w (by omega) HBW2.out)
    clear hW ro rb
    refine bodyPost_ret (v := .tuple #[.agg #[.int .i64 0, .string ⟨#[]⟩, .int .i64 0, .slice none 0 0], .int .i64 8]) (by simp [results, Tryz.results70, go_sem, r0, r1, r2, r3]) rfl ?_
    rw [HE.out]
    exact ⟨_, rfl, SliceR.nil_ 0 (Nat.zero_le _) none, HB'.out⟩
  have hv2 : SliceR treeE w2 (Lt w2.heap.size) t'.kids (.slice A' t'.kids.length cap') := SliceR.below (B := w1.heap.size) ⟨A', cap', rs, rfl, hk1, hk2, hk3, hk4⟩ hb2 hb2.size
  replace d3 : w2.cell? ⟨g, o + 3, none⟩ = some (.slice A' t'.kids.length cap') := by rw [hw2]; exact d3
  have HE2 := hid (HR.out.2.2.1 t' (by trivial) hso)
  have HE3 := hid (HR.out.2.2.2 t' (by trivial) hso)
  have HT := hid (C3.out t' hso)
  have hlen := hk2
  unfold maxLen at hlen
  have hln : (t'.kids.length : Int) ≤ 9223372036854775807 := by omega
  clear d0 d1 d2 hb2 hw2 hgl htx hk1 hk2 hk3 hk4 hlen hso
  rcases Int.lt_or_le i 0 with h1 | h1
  · have i1 : decide (i < 0) = true := by simpa using h1
    have HE := hid (HE2.out (.inl h1))
    clear hv2
    have HC := hid (And.intro c0 (And.intro c1 (And.intro c2 c3)))
    go_wp2_with fail
    generalize hW : (((w2.setCell _ (.int .i64 0)).setCell _ (.string ⟨#[]⟩)).setCell _ (.int .i64 0)).setCell _ (.slice none 0 0) = W
    obtain ⟨⟨r0, r1, r2, r3⟩, rz, rb, ro, _⟩ := four HC.out.1 HC.out.2.1 HC.out.2.2.1 HC.out.2.2.2 _ _ _ _ hW.symm
    have HB' := hid (rb w.heap.size w (by omega) HBW2.out)
    clear hW ro rb
    refine bodyPost_ret (v := .tuple #[.agg #[.int .i64 0, .string ⟨#[]⟩, .int .i64 0, .slice none 0 0], .int .i64 2]) (by simp [results, Tryz.results70, go_sem, r0, r1, r2, r3]) rfl ?_
    rw [HE.out]
    exact ⟨_, rfl, SliceR.nil_ 0 (Nat.zero_le _) none, HB'.out⟩
  have i1 : decide (i < 0) = false := by simpa using h1
  rcases Int.lt_or_le i t'.kids.length with h2 | h2
  rotate_left
  · have i2 : decide ((t'.kids.length : Int) ≤ i) = true := by simpa using h2
    have HE := hid (HE2.out (.inr h2))
    clear hv2
    have HC := hid (And.intro c0 (And.intro c1 (And.intro c2 c3)))
    go_wp2_with fail
    generalize hW : (((w2.setCell _ (.int .i64 0)).setCell _ (.string ⟨#[]⟩)).setCell _ (.int .i64 0)).setCell _ (.slice none 0 0) = W
    obtain ⟨⟨r0, r1, r2, r3⟩, rz, rb, ro, _⟩ := four HC.out.1 HC.out.2.1 HC.out.2.2.1 HC.out.2.2.2 _ _ _ _ hW.symm
    have HB' := hid (rb w.heap.size w (by omega) HBW2.out)
    clear hW ro rb
    refine bodyPost_ret (v := .tuple #[.agg #[.int .i64 0, .string ⟨#[]⟩, .int .i64 0, .slice none 0 0], .int .i64 2]) (by simp [results, Tryz.results70, go_sem, r0, r1, r2, r3]) rfl ?_
    rw [HE.out]
    exact ⟨_, rfl, SliceR.nil_ 0 (Nat.zero_le _) none, HB'.out⟩
  have i2 : decide ((t'.kids.length : Int) ≤ i) = false := by simpa using h2
  obtain ⟨k, rfl⟩ : ∃ k : Nat, i = k := ⟨i.toNat, by omega⟩
  have hk : k < t'.kids.length := by omega
  have HE : Hid (RES = (t'.kids[k], 0)) := by
    show _ = _
    rw [HE3.out (by omega), Int.toNat_natCast]
    show ((t'.kids.getD k zeroT, (0 : Int)) : Tree × Int) = _
    rw [getD_at hk]
  obtain ⟨_, _, rs2, hq, _, _, hrd2, hls2⟩ := hv2
  cases hq
  obtain ⟨gi, oi, Ai, ci, rs3, rfl, hgi, q0, q1, q2, q3, e1, e2, e3, e4, e5, hrd3, hls3⟩ := trees_at hrd2 hls2 hk
  have hki : SliceR treeE w2 (Lt w2.heap.size) t'.kids[k].kids (.slice Ai t'.kids[k].kids.length ci) := ⟨_, _, rs3, rfl, e4, e5, hrd3, hls3⟩
  have hcc : countS t'.kids[k] ≤ 1000000 := by
    have h8 := countS_get (t := t') hk
    have h9 := HT.out.2
    omega
  have CD := hid (deepNode_any t'.kids[k] Ai ci w2 hki ⟨e1, e2, e3⟩ hcc)
  generalize t'.kids[k] = x at *
  obtain ⟨xk, xt, xc, xs⟩ := x
  simp only [Tree.kind, Tree.text, Tree.cols, Tree.kids] at CD q0 q1 q2 q3
  clear hrd2 hls2 hrd3 hls3 e1 e2 e3 e4 e5 hki hcc HE2 HE3 h1 h2
  have i3 : (0 : Int) ≤ (k : Int) := by omega
  have i4 : (k : Int) < (t'.kids.length : Int) := by omega
  go_wp2_with fail
  refine CD.out.mono ?_
  rintro e w3 ⟨v3, rfl, hr3, hb3⟩
  simp only [Tree.kind, Tree.text, Tree.cols, Tree.kids] at hr3 ⊢
  obtain ⟨A3, c3n, rfl⟩ := hr3.form
  have HR3 := hid hr3
  have HB3 := hid (HB2.out.trans (hb3.mono HB2.out.size))
  clear m0 m1 m2 m3 c0 c1 c2 c3 f0 f1 f2 f3
  obtain ⟨⟨⟨m0, m1, m2, m3⟩, _⟩, ⟨⟨c0, c1, c2, c3⟩, ⟨f0, f1, f2, f3⟩⟩, hbw3⟩ := KB.out w3 HB3.out
  have HBW3 := hid hbw3
  have HZ2 : Hid (W0.heap.size ≤ w2.heap.size) := HB2.out.size
  have HC := hid (And.intro c0 (And.intro c1 (And.intro c2 c3)))
  clear hb3 hbw3 hr3 q0 q1 q2 q3 d3
  go_wp2_with fail
  generalize hW : (((w3.setCell _ (.int .i64 xk)).setCell _ (.string xt)).setCell _ (.int .i64 xc)).setCell _ (.slice A3 xs.length c3n) = W
  obtain ⟨⟨r0, r1, r2, r3⟩, rz, rb, ro, _⟩ := four HC.out.1 HC.out.2.1 HC.out.2.2.1 HC.out.2.2.2 _ _ _ _ hW.symm
  have HB' := hid (rb w.heap.size w (by omega) HBW3.out)
  have HRO : Hid (∀ q : Addr, q.block ≠ w.heap.size + 1 → W.cell? q = w3.cell? q) := ro
  clear hW ro rb
  refine bodyPost_ret (v := .tuple #[.agg #[.int .i64 xk, .string xt, .int .i64 xc, .slice A3 xs.length c3n], .int .i64 0]) (by simp [results, Tryz.results70, go_sem, r0, r1, r2, r3]) rfl ?_
  rw [HE.out]
  exact ⟨_, rfl, HR3.out.keep (fun q hq => HRO.out q (by have := hq.1; have := HZ2.out; have := HW0Z.out; omega)) (fun q hq => ⟨by have := hq.1; have := HZ2.out; have := HW0Z.out; omega, by rw [rz]; exact hq.2⟩), HB'.out⟩
end Go.Proofs.YtbjcioknfjofkaaGreat
