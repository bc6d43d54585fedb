/- Texts put together. -/
import Derived.Test.YtbjcioknfjofkaaGreatMComposeErases24
import Derived.Test.YtbjcioknfjofkaaGreatMComposeErases34
import Derived.Test.YtbjcioknfjofkaaGreatMComposeErases41
import Derived.Test.YtbjcioknfjofkaaGreatMComposeErases40
import Derived.Test.YtbjcioknfjofkaaGreatMComposeErases45
set_option linter.unusedVariables false
set_option linter.unusedSimpArgs false
namespace Go.Proofs.YtbjcioknfjofkaaGreat
open Go.RowKit
theorem forms_sub (k : Int) {a b : List Tree} (h : a.Sublist b) : formsS k b = true → formsS k a = true ∧ countsS a ≤ countsS b ∧ depthsS a ≤ depthsS b := by
  induction h with
  | slnil => exact fun h => ⟨h, Nat.le_refl _, Nat.le_refl _⟩
  | cons x _ ih =>
    intro h
    rw [formsS_cons] at h
    simp only [Bool.and_eq_true] at h
    obtain ⟨h1, h2, h3⟩ := ih h.2
    exact ⟨h1, by rw [countsS]; omega, by rw [depthsS]; omega⟩
  | cons_cons x _ ih =>
    intro h
    rw [formsS_cons] at h
    simp only [Bool.and_eq_true] at h
    obtain ⟨h1, h2, h3⟩ := ih h.2
    refine ⟨by rw [formsS_cons]; simp only [Bool.and_eq_true]; exact ⟨h.1, h1⟩, by rw [countsS, countsS]; omega, by rw [depthsS, depthsS]; omega⟩
theorem row_sub {a b : List Tree} (h : a.Sublist b) (hf : formS (rowT b) = true) : formS (rowT a) = true ∧ countS (rowT a) ≤ countS (rowT b) ∧ depthS (rowT a) ≤ depthS (rowT b) := by
  unfold rowT at *
  rw [formS] at hf ⊢
  simp only [Bool.and_eq_true] at hf ⊢
  obtain ⟨h1, h2, h3⟩ := forms_sub 1 h hf.2
  have hl := h.length_le
  refine ⟨⟨⟨hf.1.1, ?_⟩, h1⟩, by rw [countS, countS]; omega, by rw [depthS, depthS]; omega⟩
  have h4 := hf.1.2
  simp [kidsS] at h4 ⊢
  omega
theorem formsS_set (k : Int) : (ts : List Tree) → (i : Nat) → (x : Tree) → (hi : i < ts.length) → formsS k ts = true → formS x = true → (x.kind == 1) = (ts[i].kind == 1) → formsS k (ts.set i x) = true
  | t :: ts, 0, x, _, h, hx, hk => by
    simp only [List.getElem_cons_zero] at hk
    rw [List.set_cons_zero, formsS_cons, hk, hx]
    rw [formsS_cons] at h
    simp only [Bool.and_eq_true] at h ⊢
    exact ⟨⟨h.1.1, trivial⟩, h.2⟩
  | t :: ts, i + 1, x, hi, h, hx, hk => by
    rw [List.set_cons_succ, formsS_cons]
    rw [formsS_cons] at h
    simp only [Bool.and_eq_true] at h ⊢
    exact ⟨h.1, formsS_set k ts i x (by simpa using hi) h.2 hx (by simpa using hk)⟩
theorem depthsS_set : (ts : List Tree) → (i : Nat) → (x : Tree) → (hi : i < ts.length) → depthS x ≤ depthS ts[i] → depthsS (ts.set i x) ≤ depthsS ts
  | t :: ts, 0, x, _, h => by simp only [List.getElem_cons_zero, List.set_cons_zero, depthsS] at *; omega
  | t :: ts, i + 1, x, hi, h => by
    have := depthsS_set ts i x (by simpa using hi) (by simpa using h)
    simp only [List.set_cons_succ, depthsS]; omega
theorem replS_le {t : Tree} {i : Nat} {x : Tree} (hi : i < t.kids.length) (hf : formS t = true) (hx : formS x = true) (hk : (x.kind == 1) = (t.kids[i].kind == 1)) (hc : countS x ≤ countS t.kids[i]) (hd : depthS x ≤ depthS t.kids[i]) : formS (replS t i x) = true ∧ countS (replS t i x) ≤ countS t ∧ depthS (replS t i x) ≤ depthS t := by
  obtain ⟨k, s, c, ts⟩ := t
  simp only [replS, Tree.kind, Tree.text, Tree.cols, Tree.kids] at *
  rw [formS] at hf ⊢
  simp only [Bool.and_eq_true, List.length_set] at hf ⊢
  have h1 := countsS_set ts i x hi
  have h2 := depthsS_set ts i x hi hd
  exact ⟨⟨hf.1, formsS_set k ts i x hi hf.2 hx hk⟩, by rw [countS, countS]; omega, by rw [depthS, depthS]; omega⟩
theorem putS_le : (p : List Int) → (t : Tree) → (l : List Tree) → (findS t p).2 = true → formS t = true → t.kind = 1 → formS (rowT l) = true → countS (rowT l) ≤ countS (findS t p).1 → depthS (rowT l) ≤ depthS (findS t p).1 → (putS t p l).kind = 1 ∧ formS (putS t p l) = true ∧ countS (putS t p l) ≤ countS t ∧ depthS (putS t p l) ≤ depthS t
  | [], t, l, _, hf, hk, hl, hc, hd => ⟨rfl, hl, hc, hd⟩
  | [_], t, l, h, _, _, _, _, _ => by simp [findS] at h
  | i :: k :: p, t, l, h, hf, hk, hl, hc, hd => by
    obtain ⟨hi, hk', he⟩ := find_step t i k p h
    rw [he] at h hc hd
    have f1 := formS_kid hf hi.2
    rw [← kid_get hi.2, hk] at f1
    have f2 := formS_kid f1.1 hk'.2
    rw [← kid_get hk'.2, f1.2] at f2
    obtain ⟨g1, g2, g3, g4⟩ := putS_le p _ l h f2.1 (by have := f2.2; simpa using this) hl hc hd
    have e1 : putS t (i :: k :: p) l = replS t i.toNat (replS (kidS t i) k.toNat (putS (kidS (kidS t i) k) p l)) := by rw [putS]
    rw [e1]
    obtain ⟨r1, r2, r3⟩ := replS_le (t := kidS t i) (i := k.toNat) (x := putS (kidS (kidS t i) k) p l) hk'.2 f1.1 g2 (by rw [← kid_get hk'.2, f2.2, g1]; rfl) (by rw [← kid_get hk'.2]; exact g3) (by rw [← kid_get hk'.2]; exact g4)
    obtain ⟨q1, q2, q3⟩ := replS_le (t := t) (i := i.toNat) (x := replS (kidS t i) k.toNat (putS (kidS (kidS t i) k) p l)) hi.2 hf r1 (by rw [← kid_get hi.2]; rfl) (by rw [← kid_get hi.2]; exact r2) (by rw [← kid_get hi.2]; exact r3)
    exact ⟨hk, q1, q2, q3⟩
theorem find_depth : (p : List Int) → (t : Tree) → (findS t p).2 = true → depthS (findS t p).1 ≤ depthS t
  | [], t, _ => Nat.le_refl _
  | [_], t, h => by simp [findS] at h
  | i :: k :: p, t, h => by
    obtain ⟨hi, hk, he⟩ := find_step t i k p h
    rw [he] at h ⊢
    have h1 := find_depth p _ h
    have h2 := depthS_get hi.2
    rw [← kid_get hi.2] at h2
    have h3 := depthS_get hk.2
    rw [← kid_get hk.2] at h3
    omega
theorem put_sub {t : Tree} {q : List Int} {its l : List Tree} (hv : validS t = true) (hf : (findS t q).2 = true) (hi : its = (findS t q).1.kids) (h : l.Sublist its) : validS (putS t q l) = true := by
  obtain ⟨v1, v2, v3, v4⟩ := valid_count hv
  have hr := find_rowT hv hf
  have f := (find_formS q t hf v3 v2).1
  rw [hr, ← hi] at f
  obtain ⟨s1, s2, s3⟩ := row_sub h f
  have e : rowT its = (findS t q).1 := by rw [hi, ← hr]
  rw [e] at s2 s3
  obtain ⟨g1, g2, g3, g4⟩ := putS_le q t l hf v3 v2 s1 s2 s3
  unfold validS
  simp only [Bool.and_eq_true, decide_eq_true_eq, g1, g2]
  exact ⟨⟨⟨rfl, trivial⟩, by omega⟩, by omega⟩
theorem items_valid {t : Tree} {q : List Int} {its l : List Tree} (hv : validS t = true) (hf : (findS t q).2 = true) (hi : its = (findS t q).1.kids) (h : l.Sublist its) : validS (rowT l) = true := by
  obtain ⟨v1, v2, v3, v4⟩ := valid_count hv
  have hr := find_rowT hv hf
  have f := (find_formS q t hf v3 v2).1
  rw [hr, ← hi] at f
  obtain ⟨s1, s2, s3⟩ := row_sub h f
  have e : rowT its = (findS t q).1 := by rw [hi, ← hr]
  rw [e] at s2 s3
  have := find_count t q
  have := find_depth q t hf
  unfold validS
  simp only [Bool.and_eq_true, decide_eq_true_eq, s1]
  exact ⟨⟨⟨rfl, trivial⟩, by omega⟩, by omega⟩
theorem applyS_of {t : Tree} {op : OpD} {l : List Tree} (hv : validS t = true) (hf : (findS t op.row).2 = true) (ho : formedS op = true) (hc : changeS (findS t op.row).1.kids op = (l, 0)) (hv' : validS (putS t op.row l) = true) : applyS t op = (putS t op.row l, 0) := by
  unfold applyS
  rw [rowRes_ok hv hf]
  simp only [hc]
  rw [if_neg (by simp [hv]), if_neg (by simp [ho]), if_neg (by simp), if_neg (by simp), if_neg (by simp [hv'])]
theorem done_one {t m : Tree} {p mk pos : List Int} {op : OpD} (hv : validS t = true) (h : applyS t op = (m, 0)) : doneS t p mk [op] pos = (⟨[op], p, mk, pos, []⟩, 0) ∧ applyAllS t [op] = (m, 0) := by
  have e : applyAllS t [op] = (m, 0) := by
    unfold applyAllS goS
    rw [if_neg (by simp [hv]), h, if_neg (by simp)]
    rfl
  refine ⟨?_, e⟩
  unfold doneS
  rw [e, if_pos rfl]
theorem done_none {t : Tree} {p mk pos : List Int} (hv : validS t = true) : doneS t p mk [] pos = (⟨[], p, mk, pos, []⟩, 0) ∧ applyAllS t [] = (t, 0) := by
  have e : applyAllS t [] = (t, 0) := by unfold applyAllS goS; rw [if_neg (by simp [hv])]
  refine ⟨?_, e⟩
  unfold doneS
  rw [e, if_pos rfl]
theorem sub_one {its : List Tree} {a : Nat} (ha : a < its.length) : [its[a]].Sublist its := List.singleton_sublist.2 (List.getElem_mem ha)
theorem sub_splice (its : List Tree) (a : Nat) : (spliceS its a (a + 1) []).Sublist its := by
  unfold spliceS
  rw [List.append_nil]
  have h := List.Sublist.append (List.Sublist.refl (its.take a)) (List.drop_sublist_drop_left its (Nat.le_succ a))
  rwa [List.take_append_drop] at h
theorem noT_empty : noT.toList.isEmpty = true := by rw [show noT.toList = [] by unfold noT ByteArray.toList ByteArray.toList.loop; rfl]; rfl
theorem del_apply {t : Tree} {q : List Int} {its : List Tree} {a : Nat} (hv : validS t = true) (hf : (findS t q).2 = true) (hi : its = (findS t q).1.kids) (ha : a < its.length) : applyS t (delOp q (a : Int) [its[a]]) = (putS t q (spliceS its a (a + 1) []), 0) := by
  have h := applyS_of (t := t) (op := delOp q (a : Int) [its[a]]) (l := spliceS its a (a + 1) []) hv hf ?_ ?_ (put_sub hv hf hi (sub_splice its a))
  · exact h
  · unfold formedS delOp
    simp only [or_true, if_true, Bool.and_eq_true, decide_eq_true_eq]
    exact ⟨by simp, items_valid hv hf hi (sub_one ha), trivial, trivial, noT_empty, noT_empty⟩
  · show changeS (findS t q).1.kids _ = _
    rw [← hi]
    unfold changeS delOp needS
    simp only
    rw [if_neg (by simp; omega), if_neg (by simp), if_pos (by trivial), if_pos ?_]
    · simp only [List.length_cons, List.length_nil, Nat.zero_add]
      rw [show ((a : Int) + ((1 : Nat) : Int)).toNat = a + 1 by omega, Int.toNat_natCast]
    · have e : (List.drop (a : Int).toNat (List.take ((a : Int) + ([its[a]].length : Nat)).toNat its)) = [its[a]] := by
        simp only [List.length_cons, List.length_nil, Nat.zero_add]
        rw [show ((a : Int) + ((1 : Nat) : Int)).toNat = a + 1 by omega, Int.toNat_natCast, List.drop_take, Nat.add_sub_cancel_left, List.drop_eq_getElem_cons ha]
        rfl
      rw [e]
      unfold sameS
      have e2 : eqS its[a] its[a] = true := (eqS_iff _ _).2 rfl
      simp [eqsS, e2]
theorem unw_apply {t : Tree} {q : List Int} {its : List Tree} {a s : Nat} (hv : validS t = true) (hf : (findS t q).2 = true) (hi : its = (findS t q).1.kids) (ha : a < its.length) (hs : s < its[a].kids.length) (he : its[a].kids[s] = rowT []) : applyS t (unwS ⟨q, (a : Int), (s : Int), its[a]⟩) = (putS t q (spliceS its a (a + 1) []), 0) := by
  have hk : kidS its[a] (s : Int) = rowT [] := by rw [kid_get (by simpa using hs)]; simpa using he
  have hfi : filledS its[a] s [] = its[a] := by
    unfold filledS replS
    rw [← he, List.set_getElem_self]
    cases its[a]; rfl
  have hop : unwS ⟨q, (a : Int), (s : Int), its[a]⟩ = ⟨4, q, (a : Int), 0, [its[a]], (s : Int), noT, noT⟩ := by
    unfold unwS
    simp only [hk, Int.toNat_natCast, hfi]
    rfl
  rw [hop]
  have h := applyS_of (t := t) (op := ⟨4, q, (a : Int), 0, [its[a]], (s : Int), noT, noT⟩) (l := spliceS its a (a + 1) []) hv hf ?_ ?_ (put_sub hv hf hi (sub_splice its a))
  · exact h
  · unfold formedS templateS
    rw [if_neg (by simp), if_pos (by simp)]
    simp only [Bool.and_eq_true, List.headD_cons]
    refine ⟨by simp, ⟨rfl, items_valid hv hf hi (sub_one ha), decide_eq_true (show (0 : Int) ≤ (s : Int) by omega), decide_eq_true (show (s : Int) < (its[a].kids.length : Int) by omega), decide_eq_true (show (kidS its[a] (s : Int)).kids.length = 0 by rw [hk]; rfl)⟩, noT_empty, noT_empty⟩
  · show changeS (findS t q).1.kids _ = _
    rw [← hi]
    have hg : its.getD a zeroT = its[a] := by rw [List.getD_eq_getElem?_getD, List.getElem?_eq_getElem ha]; rfl
    unfold changeS needS
    simp only [Int.toNat_natCast, hg, hk, List.headD_cons]
    rw [if_neg (by simp; omega), if_neg (by decide), if_neg (by decide), if_neg (by decide), if_pos (by trivial), if_neg ?_]
    · rw [show ((a : Int) + 1).toNat = a + 1 by omega]
      rfl
    · rintro (h | h | h)
      · omega
      · exact h rfl
      · rw [show (rowT ([] : List Tree)).kids = [] from rfl, hfi, (eqS_iff _ _).2 rfl] at h; cases h
end Go.Proofs.YtbjcioknfjofkaaGreat
set_option linter.unusedVariables false
set_option linter.unusedSimpArgs false
namespace Go.Proofs.YtbjcioknfjofkaaGreat
open Go.RowKit
def cleanP (b : Bool) : Tree → List Int → Prop
  | t, i :: k :: p => (if b then i + 1 = (t.kids.length : Int) ∧ ∀ j : Int, k < j → (kidS (kidS t i) j).kids = [] else i = 0 ∧ ∀ j : Int, 0 ≤ j → j < k → (kidS (kidS t i) j).kids = []) ∧ cleanP b (kidS (kidS t i) k) p
  | _, _ => True
theorem clean_app (b : Bool) : (q : List Int) → (t : Tree) → (r : List Int) → (findS t q).2 = true → (cleanP b t (q ++ r) ↔ cleanP b t q ∧ cleanP b (findS t q).1 r)
  | [], t, r, _ => by simp [cleanP, findS]
  | [_], t, r, h => by simp [findS] at h
  | i :: k :: q, t, r, h => by
    obtain ⟨hi, hk, he⟩ := find_step t i k q h
    rw [he] at h ⊢
    show cleanP b t (i :: k :: (q ++ r)) ↔ _
    rw [cleanP, cleanP, clean_app b q _ r h, and_assoc]
theorem clean_put (b : Bool) : (q : List Int) → (t : Tree) → (l : List Tree) → (findS t q).2 = true → cleanP b t q → cleanP b (putS t q l) q
  | [], t, l, _, _ => by simp [cleanP]
  | [_], t, l, h, _ => by simp [findS] at h
  | i :: k :: q, t, l, h, hc => by
    obtain ⟨hi, hk, he⟩ := find_step t i k q h
    rw [he] at h
    rw [cleanP] at hc ⊢
    rw [putS, replS_same hi.2, replS_same hk.2, replS_len]
    refine ⟨?_, clean_put b q _ l h hc.2⟩
    have h1 := hc.1
    cases b
    · simp only [Bool.false_eq_true, if_false] at h1 ⊢
      refine ⟨h1.1, fun j h0 hj => ?_⟩
      rw [replS_other (by omega)]
      exact h1.2 j h0 hj
    · simp only [if_true] at h1 ⊢
      refine ⟨h1.1, fun j hj => ?_⟩
      rw [replS_other (by omega)]
      exact h1.2 j hj
theorem cont_iff : (ts : List Tree) → (i but : Int) → (contS ts i but = true ↔ ∃ (j : Nat) (h : j < ts.length), i + (j : Int) ≠ but ∧ ts[j].kids ≠ [])
  | [], i, but => by simp [contS]
  | k :: ks, i, but => by
    rw [contS, Bool.or_eq_true, cont_iff ks (i + 1) but]
    simp only [Bool.and_eq_true, decide_eq_true_eq]
    constructor
    · rintro (⟨h1, h2⟩ | ⟨j, hj, h1, h2⟩)
      · exact ⟨0, by simp, by simpa using h1, by simp only [List.getElem_cons_zero]; intro e; rw [e] at h2; simp at h2⟩
      · exact ⟨j + 1, by simpa using hj, by omega, by simpa using h2⟩
    · rintro ⟨j, hj, h1, h2⟩
      rcases j with _ | j
      · refine .inl ⟨by simpa using h1, ?_⟩
        simp only [List.getElem_cons_zero] at h2
        exact List.length_pos_iff.2 h2
      · exact .inr ⟨j, by simpa using hj, by omega, by simpa using h2⟩
theorem ext_row (b : Bool) {t : Tree} {q u v : List Int} (hf : (findS t q).2 = true) (h : ∀ r, posIn (findS t q).1 r = true → 0 < sgnS b * cmpS r v → sgnS b * cmpS u r ≤ 0) : ∀ x, posIn t x = true → 0 < sgnS b * cmpS x (q ++ v) → sgnS b * cmpS (q ++ u) x ≤ 0 := by
  intro x hx hc
  by_cases hq : q <+: x
  · obtain ⟨r, rfl⟩ := hq
    rw [posIn_find q t r hf] at hx
    rw [cmpS_append] at hc ⊢
    exact h r hx hc
  · cases b
    · simp only [sgnS, Bool.false_eq_true, if_false, Int.one_mul] at *
      refine (cmp_out_r q x v u hq).1 ?_
      rw [cmpS_swap] at hc; omega
    · simp only [sgnS, if_true] at *
      have := (cmp_out_l q x v u hq).1 (by omega)
      rw [cmpS_swap] at this; omega
theorem adj_in (b : Bool) {u : Tree} {n m : Nat} {a s : Int} (hn : u.kids.length = n + 1) (ha : a = if b then (n : Int) else 0) (hm : (kidS u a).kids.length = m + 1) (hs : s = if b then (m : Int) else 0) :
    ∀ r, posIn u r = true → 0 < sgnS b * cmpS r [if b then ((n + 1 : Nat) : Int) else 0] → sgnS b * cmpS [a, s, if b then ((kidS (kidS u a) s).kids.length : Int) else 0] r ≤ 0 := by
  intro r hr hc
  cases b
  · simp only [sgnS, Bool.false_eq_true, if_false, Int.one_mul] at *
    subst ha hs
    match r, hr, hc with
    | [], hr, _ => simp [posIn] at hr
    | [x], hr, hc =>
      rw [cmpC_cons] at hc ⊢
      by_cases h : 0 < x
      · rw [if_pos h]; omega
      · exfalso
        split at hc
        · omega
        · simp [cmpS] at hc
    | i :: k :: r, hr, hc =>
      rw [posIn_step] at hr
      simp only [Bool.and_eq_true, decide_eq_true_eq] at hr
      rw [cmpC_cons]
      by_cases h : 0 < i
      · rw [if_pos h]; omega
      · obtain rfl : i = 0 := by omega
        rw [if_neg (by omega), if_neg (by omega), cmpC_cons]
        by_cases h2 : 0 < k
        · rw [if_pos h2]; omega
        · obtain rfl : k = 0 := by omega
          rw [if_neg (by omega), if_neg (by omega)]
          exact row_lo r hr.2.2
  · simp only [sgnS, if_true] at *
    subst ha hs
    have key : cmpS r [(n : Int), (m : Int), ((kidS (kidS u (n : Int)) (m : Int)).kids.length : Int)] ≤ 0 := by
      match r, hr, hc with
      | [], hr, _ => simp [posIn] at hr
      | [x], hr, hc =>
        rw [posIn_one] at hr
        have hr := of_decide_eq_true hr
        rw [cmpC_cons] at hc ⊢
        by_cases h : x < (n : Int)
        · rw [if_pos h]; omega
        · rw [if_neg h]
          by_cases h2 : (n : Int) < x
          · exfalso
            rw [if_neg (by omega), if_neg (by omega)] at hc
            simp [cmpS] at hc
          · rw [if_neg h2]; simp [cmpS]
      | i :: k :: r, hr, hc =>
        rw [posIn_step] at hr
        simp only [Bool.and_eq_true, decide_eq_true_eq] at hr
        rw [cmpC_cons]
        by_cases h : i < (n : Int)
        · rw [if_pos h]; omega
        · obtain rfl : i = (n : Int) := by omega
          rw [if_neg (by omega), if_neg (by omega), cmpC_cons]
          by_cases h2 : k < (m : Int)
          · rw [if_pos h2]; omega
          · obtain rfl : k = (m : Int) := by omega
            rw [if_neg (by omega), if_neg (by omega)]
            exact row_hi r hr.2.2
    rw [cmpS_swap]; omega
theorem adj_slot (b : Bool) {u : Tree} {i s s' : Int} (he : (kidS (kidS u i) s).kids = []) (hs : s' = if b then s - 1 else s + 1) :
    ∀ r, posIn u r = true → 0 < sgnS b * cmpS r [i, s, 0] → sgnS b * cmpS [i, s', if b then ((kidS (kidS u i) s').kids.length : Int) else 0] r ≤ 0 := by
  intro r hr hc
  cases b
  · simp only [sgnS, Bool.false_eq_true, if_false, Int.one_mul] at *
    subst hs
    match r, hr, hc with
    | [], hr, _ => simp [posIn] at hr
    | [x], hr, hc =>
      rw [cmpC_cons] at hc ⊢
      by_cases h : i < x
      · rw [if_pos h]; omega
      · exfalso
        split at hc
        · omega
        · simp [cmpS] at hc
    | j :: k :: r, hr, hc =>
      rw [posIn_step] at hr
      simp only [Bool.and_eq_true, decide_eq_true_eq] at hr
      rw [cmpC_cons] at hc ⊢
      by_cases h : i < j
      · rw [if_pos h]; omega
      · rw [if_neg h]
        by_cases h1 : j < i
        · rw [if_pos h1] at hc; omega
        · obtain rfl : j = i := by omega
          rw [if_neg (by omega), if_neg (by omega), cmpC_cons] at hc
          rw [if_neg (by omega), cmpC_cons]
          by_cases h2 : k < s
          · rw [if_pos h2] at hc; omega
          · by_cases h3 : s < k
            · by_cases h4 : s + 1 < k
              · rw [if_pos h4]; omega
              · obtain rfl : k = s + 1 := by omega
                rw [if_neg (by omega), if_neg (by omega)]
                exact row_lo r hr.2.2
            · obtain rfl : k = s := by omega
              rw [if_neg (by omega), if_neg (by omega)] at hc
              have := row_hi r hr.2.2
              rw [he] at this
              simp only [List.length_nil] at this
              exact absurd this (by simpa using hc)
  · simp only [sgnS, if_true] at *
    subst hs
    have key : cmpS r [i, s - 1, ((kidS (kidS u i) (s - 1)).kids.length : Int)] ≤ 0 := by
      match r, hr, hc with
      | [], hr, _ => simp [posIn] at hr
      | [x], hr, hc =>
        rw [cmpC_cons] at hc ⊢
        by_cases h : x < i
        · rw [if_pos h]; omega
        · rw [if_neg h]
          by_cases h2 : i < x
          · rw [if_neg h, if_pos h2] at hc; omega
          · rw [if_neg h2]; simp [cmpS]
      | j :: k :: r, hr, hc =>
        rw [posIn_step] at hr
        simp only [Bool.and_eq_true, decide_eq_true_eq] at hr
        rw [cmpC_cons] at hc ⊢
        by_cases h : j < i
        · rw [if_pos h]; omega
        · rw [if_neg h]
          by_cases h1 : i < j
          · rw [if_neg h, if_pos h1] at hc; omega
          · obtain rfl : j = i := by omega
            rw [if_neg (by omega), if_neg (by omega), cmpC_cons] at hc
            rw [if_neg (by omega), cmpC_cons]
            by_cases h2 : k < s - 1
            · rw [if_pos h2]; omega
            · by_cases h3 : k < s
              · obtain rfl : k = s - 1 := by omega
                rw [if_neg (by omega), if_neg (by omega)]
                exact row_hi r hr.2.2
              · by_cases h4 : s < k
                · rw [if_neg h3, if_pos h4] at hc; omega
                · obtain rfl : k = s := by omega
                  rw [if_neg (by omega), if_neg (by omega)] at hc
                  have := row_lo r hr.2.2
                  rw [cmpS_swap] at this
                  omega
    rw [cmpS_swap]; omega
end Go.Proofs.YtbjcioknfjofkaaGreat
set_option linter.unusedVariables false
set_option linter.unusedSimpArgs false
namespace Go.Proofs.YtbjcioknfjofkaaGreat
open Go.RowKit
def ErStep (b : Bool) (t : Tree) (q : List Int) (o : Int) : Prop :=
  ∃ ops q' o' t', eraseT t (q ++ [o]) [] b = (⟨ops, q ++ [o], [], q' ++ [o'], []⟩, 0) ∧ applyAllS t ops = (t', 0) ∧ validS t' = true ∧ posIn t' (q' ++ [o']) = true ∧ cleanP b t' q' ∧ (o' = if b then ((findS t' q').1.kids.length : Int) else 0) ∧ measS (sgnS b) t' (q' ++ [o']) < measS (sgnS b) t (q ++ [o])
theorem er_T (t : Tree) (q : List Int) (o : Int) (b : Bool) {its : List Tree} (hv : validS t = true) (hf : (findS t q).2 = true) (hi : its = (findS t q).1.kids) : eraseT t (q ++ [o]) [] b =
    if 0 ≤ (if b then o - 1 else o) ∧ (if b then o - 1 else o) < (its.length : Int) then
      (if contS (itemD its (if b then o - 1 else o).toNat).kids 0 (-1) = false then doneS t (q ++ [o]) [] [delOp q (if b then o - 1 else o) [itemD its (if b then o - 1 else o).toNat]] (q ++ [if b then o - 1 else o]) else stepE t (q ++ [o]) [] b)
    else match aroS t (q ++ [o]) with
      | some x => if contS x.item.kids 0 x.own = false then doneS t (q ++ [o]) [] [unwS x] (x.row ++ [if b then x.at_ else x.at_ + (unwS x).n]) else stepE t (q ++ [o]) [] b
      | none => stepE t (q ++ [o]) [] b := by
  unfold eraseT
  have e1 : (q ++ [o]).dropLast = q := by simp
  have e2 : (q ++ [o]).getLastD 0 = o := by simp
  rw [e1, e2, rowRes_ok hv hf]
  simp only [← hi]
  rfl
theorem er_step {b : Bool} {t : Tree} {q q' : List Int} {o o' : Int} (hv : validS t = true) (hp : posIn t (q ++ [o]) = true) (hT : eraseT t (q ++ [o]) [] b = stepE t (q ++ [o]) [] b) (ha : posIn t (q' ++ [o']) = true) (h1 : 0 < sgnS b * cmpS (q' ++ [o']) (q ++ [o])) (h2 : ∀ x, posIn t x = true → 0 < sgnS b * cmpS x (q ++ [o]) → sgnS b * cmpS (q' ++ [o']) x ≤ 0) (hc : cleanP b t q') (ho : o' = if b then ((findS t q').1.kids.length : Int) else 0) : ErStep b t q o := by
  have hs := step_is b hv hp ha h1 h2
  obtain ⟨d1, d2⟩ := done_none (t := t) (p := q ++ [o]) (mk := []) (pos := q' ++ [o']) hv
  refine ⟨[], q', o', t, ?_, d2, hv, ha, hc, ho, step_lt b ha h1⟩
  rw [hT]
  unfold stepE
  rw [hs, if_neg (by simp)]
  exact d1
theorem er_rm {b : Bool} {t : Tree} {q q0 : List Int} {o : Int} {op : OpD} {its : List Tree} {n a : Nat} (hv : validS t = true) (hf : (findS t q0).2 = true) (hi : its = (findS t q0).1.kids) (hn : its.length = n + 1) (ha : a = if b then n else 0)
    (hap : applyS t op = (putS t q0 (spliceS its a (a + 1) []), 0)) (hT : eraseT t (q ++ [o]) [] b = doneS t (q ++ [o]) [] [op] (q0 ++ [(a : Int)])) (hc : cleanP b t q0) (hz : 0 < sgnS b * cmpS (q0 ++ [if b then (n : Int) else 1]) (q ++ [o])) : ErStep b t q o := by
  obtain ⟨d1, d2⟩ := done_one (p := q ++ [o]) (mk := []) (pos := q0 ++ [(a : Int)]) hv hap
  have he : spliceS its a (a + 1) [] = if b then its.take n else its.drop 1 := by
    subst ha
    unfold spliceS
    cases b
    · simp
    · simp only [if_true, List.append_nil]
      rw [List.drop_of_length_le (by omega), List.append_nil]
  have hm := rm_lt b (p := q ++ [o]) hf hi hn hz
  have hl : (spliceS its a (a + 1) []).length = n := by
    rw [he]; cases b <;> simp [hn]
  have hfp := find_put_in q0 t (spliceS its a (a + 1) []) [] hf
  rw [List.append_nil] at hfp
  have hk : (findS (putS t q0 (spliceS its a (a + 1) [])) q0).1.kids = spliceS its a (a + 1) [] := by rw [hfp]; rfl
  refine ⟨[op], q0, (a : Int), _, hT.trans d1, d2, put_sub hv hf hi (sub_splice its a), ?_, clean_put b q0 t _ hf hc, ?_, ?_⟩
  · rw [posIn_put_in q0 t _ _ hf, row_one, hl]
    cases b <;> simp at ha <;> omega
  · rw [hk, hl, ha]
    cases b <;> simp
  · rw [he]
    have e : ((a : Nat) : Int) = if b then (n : Int) else 0 := by rw [ha]; cases b <;> simp
    rw [e]
    exact hm
set_option maxHeartbeats 1000000 in
theorem erase_step (b : Bool) {t : Tree} {q : List Int} {o : Int} (hv : validS t = true) (hp : posIn t (q ++ [o]) = true) (hc : cleanP b t q) (ho : o = if b then ((findS t q).1.kids.length : Int) else 0) :
    (eraseT t (q ++ [o]) [] b = (recZ, 8) ∧ t.kids = []) ∨ ErStep b t q o := by
  obtain ⟨hf, _, _⟩ := pos_last hp
  obtain ⟨its, hi⟩ : ∃ its, its = (findS t q).1.kids := ⟨_, rfl⟩
  have hT := er_T t q o b hv hf hi
  rw [← hi] at ho
  rcases Nat.eq_zero_or_pos its.length with h0 | h0
  · -- the row has no items
    have hnil : its = [] := List.length_eq_zero_iff.1 h0
    have ho0 : o = 0 := by rw [ho, h0]; cases b <;> rfl
    subst ho0
    rw [if_neg (by rw [h0]; cases b <;> simp <;> omega)] at hT
    have he := find_even q t hf
    rcases Nat.lt_or_ge q.length 2 with h2 | h2
    · -- the root row
      obtain rfl : q = [] := List.length_eq_zero_iff.1 (by omega)
      have hk : t.kids = [] := by rw [← hnil, hi]; rfl
      refine .inl ⟨?_, hk⟩
      rw [hT]
      have ea : aroS t ([] ++ [0]) = none := by unfold aroS; rw [if_pos (by simp)]
      rw [ea]
      have hs := step_no (p := [] ++ [0]) b hv hp (fun x hx hc => by
        match x, hx, hc with
        | [], hx, _ => simp [posIn] at hx
        | [x], hx, hc =>
          rw [posIn_one, hk] at hx
          have hx := of_decide_eq_true hx
          simp only [List.length_nil] at hx
          obtain rfl : x = 0 := by omega
          rw [show ([] ++ [0] : List Int) = [0] from rfl, cmpS_self] at hc
          omega
        | i :: k :: r, hx, _ =>
          rw [posIn_step, hk] at hx
          simp at hx)
      show stepE t ([] ++ [0]) [] b = _
      unfold stepE
      rw [hs, if_pos (by simp)]
    · -- a slot
      obtain ⟨q2, i, s, rfl⟩ := two_last h2
      obtain ⟨g1, g2, g3, g4, _, _⟩ := pos_around hp
      rw [aro_of hv hp] at hT
      simp only at hT
      have hgi : ∃ n, (findS t q2).1.kids.length = n + 1 := ⟨(findS t q2).1.kids.length - 1, by omega⟩
      obtain ⟨n, hn⟩ := hgi
      have hcl := (clean_app b q2 t [i, s] g1).1 hc
      obtain ⟨hc1, hc2, _⟩ := hcl
      have hempty : (kidS (kidS (findS t q2).1 i) s).kids = [] := by rw [← g4, ← hi, hnil]
      cases hcon : contS (kidS (findS t q2).1 i).kids 0 s with
      | false =>
        rw [hcon, if_pos rfl] at hT
        obtain ⟨a, rfl⟩ : ∃ a : Nat, i = (a : Int) := ⟨i.toNat, by omega⟩
        obtain ⟨s', rfl⟩ : ∃ s' : Nat, s = (s' : Int) := ⟨s.toNat, by omega⟩
        have ha : a < (findS t q2).1.kids.length := by have := g2.2; omega
        have hki : kidS (findS t q2).1 (a : Int) = (findS t q2).1.kids[a] := by rw [kid_get (by simpa using ha)]; simp
        rw [hki] at hT hempty g3
        have hs' : s' < (findS t q2).1.kids[a].kids.length := by have := g3.2; omega
        have hks : kidS (findS t q2).1.kids[a] (s' : Int) = (findS t q2).1.kids[a].kids[s'] := by rw [kid_get (by simpa using hs')]; simp
        have hrow : (findS t q2).1.kids[a].kids[s'] = rowT [] := by
          have hr := find_rowT hv hf
          rw [g4, hki, hks, ← hks, hempty] at hr
          rw [← hks]
          exact hr
        have hap := unw_apply hv g1 rfl ha hs' hrow
        have hun : (unwS ⟨q2, (a : Int), (s' : Int), (findS t q2).1.kids[a]⟩).n = 0 := by
          show ((kidS (findS t q2).1.kids[a] (s' : Int)).kids.length : Int) = 0
          rw [hempty]; rfl
        rw [hun] at hT
        have haa : a = if b then n else 0 := by
          cases b
          · simp only [Bool.false_eq_true, if_false] at hc2 ⊢; omega
          · simp only [if_true] at hc2 ⊢; omega
        refine .inr (er_rm (q0 := q2) (a := a) hv g1 rfl hn haa hap ?_ hc1 ?_)
        · rw [hT]; simp
        · rw [List.append_assoc, cmpS_append]
          show 0 < sgnS b * cmpS _ [(a : Int), (s' : Int), 0]
          cases b
          · simp only [Bool.false_eq_true, if_false] at haa ⊢
            rw [cmpC_cons, if_neg (by omega), if_pos (by omega)]
            simp [sgnS]
          · simp only [if_true] at haa ⊢
            rw [cmpC_cons, if_neg (by omega), if_neg (by omega)]
            simp [sgnS, cmpS]
      | true =>
        rw [hcon, if_neg (by simp)] at hT
        obtain ⟨j, hj, hjs, hjk⟩ := (cont_iff _ _ _).1 hcon
        have hjk' : (kidS (kidS (findS t q2).1 i) (j : Int)).kids ≠ [] := by rw [kid_get (by simpa using hj)]; simpa using hjk
        obtain ⟨s1, hs1⟩ : ∃ s1, s1 = if b then s - 1 else s + 1 := ⟨_, rfl⟩
        have hs1r : 0 ≤ s1 ∧ s1.toNat < (kidS (findS t q2).1 i).kids.length := by
          cases b
          · simp only [Bool.false_eq_true, if_false] at hc2 hs1
            have : ¬ (j : Int) < s := fun h => hjk' (hc2.2 j (by omega) h)
            omega
          · simp only [if_true] at hc2 hs1
            have : ¬ s < (j : Int) := fun h => hjk' (hc2.2 j h)
            omega
        have hfq : findS t (q2 ++ [i, s1]) = (kidS (kidS (findS t q2).1 i) s1, true) := by
          rw [find_append q2 t [i, s1] g1, find_some _ i s1 [] g2 hs1r]; rfl
        refine .inr (er_step (q' := q2 ++ [i, s1]) (o' := if b then ((kidS (kidS (findS t q2).1 i) s1).kids.length : Int) else 0) hv hp hT ?_ ?_ ?_ ?_ ?_)
        · rw [posIn_find _ _ _ (by rw [hfq]), hfq, posIn_one, decide_eq_true_eq]
          cases b <;> simp
        · rw [List.append_assoc, List.append_assoc, cmpS_append]
          show 0 < sgnS b * cmpS [i, s1, _] [i, s, 0]
          rw [cmpC_cons, if_neg (by omega), if_neg (by omega), cmpC_cons]
          cases b
          · simp only [Bool.false_eq_true, if_false] at hs1
            rw [if_neg (by omega), if_pos (by omega)]; simp [sgnS]
          · simp only [if_true] at hs1
            rw [if_pos (by omega)]; simp [sgnS]
        · have h := ext_row b (u := [i, s1, if b then ((kidS (kidS (findS t q2).1 i) s1).kids.length : Int) else 0]) (v := [i, s, 0]) g1 (adj_slot b hempty hs1)
          simpa only [List.append_assoc, List.cons_append, List.nil_append] using h
        · rw [clean_app b q2 t [i, s1] g1]
          refine ⟨hc1, ?_, trivial⟩
          cases b
          · simp only [Bool.false_eq_true, if_false] at hc2 hs1 ⊢
            refine ⟨hc2.1, fun k h1 h2 => ?_⟩
            rcases Int.lt_or_eq_of_le (show k ≤ s by omega) with h | h
            · exact hc2.2 k h1 h
            · rw [h]; exact hempty
          · simp only [if_true] at hc2 hs1 ⊢
            refine ⟨hc2.1, fun k h1 => ?_⟩
            rcases Int.lt_or_eq_of_le (show s ≤ k by omega) with h | h
            · exact hc2.2 k h
            · rw [← h]; exact hempty
        · rw [hfq]
  · -- there are items
    obtain ⟨n, hn⟩ : ∃ n, its.length = n + 1 := ⟨its.length - 1, by omega⟩
    obtain ⟨a, ha⟩ : ∃ a : Nat, a = if b then n else 0 := ⟨_, rfl⟩
    have hal : a < its.length := by rw [ha]; cases b <;> simp <;> omega
    have hnx : (if b then o - 1 else o) = (a : Int) := by rw [ho, ha, hn]; cases b <;> simp
    rw [hnx, if_pos ⟨by omega, by omega⟩] at hT
    have hit : itemD its (a : Int).toNat = its[a] := by simp [itemD, hal]
    rw [hit] at hT
    refine .inr ?_
    cases hcon : contS its[a].kids 0 (-1) with
    | false =>
      rw [hcon, if_pos rfl] at hT
      refine er_rm (q0 := q) (a := a) hv hf hi hn ha (del_apply hv hf hi hal) hT hc ?_
      rw [cmpS_append, ho, hn]
      cases b
      · simp [sgnS, cmpS]
      · simp only [if_true]
        rw [cmpC_cons, if_pos (by omega)]
        simp [sgnS]
    | true =>
      rw [hcon, if_neg (by simp)] at hT
      obtain ⟨j, hj, _, hjk⟩ := (cont_iff _ _ _).1 hcon
      obtain ⟨m, hm⟩ : ∃ m, its[a].kids.length = m + 1 := ⟨its[a].kids.length - 1, by omega⟩
      have hka : kidS (findS t q).1 (a : Int) = its[a] := by
        subst hi
        rw [kid_get (by simpa using hal)]; simp
      obtain ⟨s, hs⟩ : ∃ s : Int, s = if b then (m : Int) else 0 := ⟨_, rfl⟩
      have hsr : 0 ≤ s ∧ s.toNat < (kidS (findS t q).1 (a : Int)).kids.length := by rw [hka, hm, hs]; cases b <;> simp
      have har : 0 ≤ (a : Int) ∧ (a : Int).toNat < (findS t q).1.kids.length := by rw [← hi]; exact ⟨by omega, by simpa using hal⟩
      have hfq : findS t (q ++ [(a : Int), s]) = (kidS (kidS (findS t q).1 (a : Int)) s, true) := by
        rw [find_append q t [(a : Int), s] hf, find_some _ (a : Int) s [] har hsr]; rfl
      have hlen : (findS t q).1.kids.length = n + 1 := by rw [← hi]; exact hn
      refine er_step (q' := q ++ [(a : Int), s]) (o' := if b then ((kidS (kidS (findS t q).1 (a : Int)) s).kids.length : Int) else 0) hv hp hT ?_ ?_ ?_ ?_ ?_
      · rw [posIn_find _ _ _ (by rw [hfq]), hfq, posIn_one, decide_eq_true_eq]
        cases b <;> simp
      · rw [List.append_assoc, cmpS_append, ho, hn]
        show 0 < sgnS b * cmpS [(a : Int), s, _] [_]
        cases b
        · simp only [Bool.false_eq_true, if_false] at ha ⊢
          subst ha
          rw [cmpC_cons, if_neg (by simp), if_neg (by simp)]; simp [sgnS, cmpS]
        · simp only [if_true] at ha ⊢
          rw [cmpC_cons, if_pos (by omega)]; simp [sgnS]
      · have h := ext_row b (u := [(a : Int), s, if b then ((kidS (kidS (findS t q).1 (a : Int)) s).kids.length : Int) else 0]) (v := [if b then ((n + 1 : Nat) : Int) else 0]) hf (adj_in b hlen (by rw [ha]; cases b <;> simp) (by rw [hka]; exact hm) hs)
        have ho' : o = if b then ((n + 1 : Nat) : Int) else 0 := by rw [ho, hn]
        rw [ho']
        simpa only [List.append_assoc, List.cons_append, List.nil_append] using h
      · rw [clean_app b q t [(a : Int), s] hf]
        refine ⟨hc, ?_, trivial⟩
        cases b
        · simp only [Bool.false_eq_true, if_false] at ha hs ⊢
          subst ha
          exact ⟨rfl, fun k h1 h2 => by omega⟩
        · simp only [if_true] at ha hs ⊢
          refine ⟨by rw [hlen]; omega, fun k hk => ?_⟩
          have : (kidS (kidS (findS t q).1 (a : Int)) k) = zeroT := kidS_big (by rw [hka, hm]; omega)
          rw [this]; rfl
      · rw [hfq]
end Go.Proofs.YtbjcioknfjofkaaGreat
set_option linter.unusedVariables false
set_option linter.unusedSimpArgs false
namespace Go.Proofs.YtbjcioknfjofkaaGreat
open Go.RowKit
theorem all_okE {t m : Tree} {ops : List OpD} (h : applyAllS t ops = (m, 0)) : validS t = true ∧ goS t ops = (m, 0) := by
  unfold applyAllS at h
  split at h
  · injection h with _ h; simp at h
  · rename_i h1; exact ⟨by simpa using h1, h⟩
theorem go_nodeE (hok : ∀ t op, NodeOk t → (applyS t op).2 = 0 → NodeOk (applyS t op).1) : (ops : List OpD) → (t m : Tree) → goS t ops = (m, 0) → NodeOk t → NodeOk m
  | [], t, m, h, hn => by
    rw [goS] at h
    injection h with h _
    subst h
    exact hn
  | op :: ops, t, m, h, hn => by
    rw [goS] at h
    split at h
    · rename_i h1; injection h with _ h; exact absurd h h1
    rename_i h1
    exact go_nodeE hok ops _ m h (hok t op hn (Decidable.byContradiction h1))
structure ErInv (b : Bool) (t : Tree) (q : List Int) (o : Int) : Prop where
  v : validS t = true
  n : NodeOk t
  p : posIn t (q ++ [o]) = true
  c : cleanP b t q
  e : o = if b then ((findS t q).1.kids.length : Int) else 0
theorem er_start {t : Tree} (b : Bool) (hv : validS t = true) (hn : NodeOk t) : ErInv b t [] (if b then (t.kids.length : Int) else 0) := by
  refine ⟨hv, hn, ?_, trivial, rfl⟩
  rw [List.nil_append, posIn_one, decide_eq_true_eq]
  cases b <;> simp
theorem meas_all {s : Int} {t : Tree} {p : List Int} (hp : posIn t p = true) : measS s t p < (allS [] t).length := by
  unfold measS
  rw [List.length_filter_lt_length_iff_exists]
  exact ⟨p, mem_all.2 hp, by rw [cmpS_self]; simp⟩
theorem row_cnt {t : Tree} (hv : validS t = true) (r : List Int) : countS (rowRes t r).1 ≤ 1000 := by
  have hc := (valid_count hv).1
  have hz : countS zeroT ≤ 1000 := by decide
  unfold rowRes
  split
  · exact hz
  · split
    · exact hz
    · exact Nat.le_trans (find_count t r) hc
theorem itemD_cnt (l : List Tree) (i : Nat) : countS (itemD l i) ≤ 1 + countsS l := by
  unfold itemD
  rw [List.getD_eq_getElem?_getD]
  rcases Nat.lt_or_ge i l.length with h | h
  · rw [List.getElem?_eq_getElem h]
    have := countsS_get h
    simp only [Option.getD_some]
    omega
  · rw [List.getElem?_eq_none h]
    show countS zeroT ≤ _
    have : countS zeroT = 1 := rfl
    omega
def SmallO (ops : List OpD) : Prop := ops.length ≤ 1000 ∧ ∀ k (hk : k < ops.length), countsS ops[k].nodes ≤ 100000
theorem small_nil : SmallO [] := ⟨Nat.zero_le _, fun k hk => by simp at hk⟩
theorem small_one {op : OpD} (h : countsS op.nodes ≤ 100000) : SmallO [op] := ⟨by simp, fun k hk => by
  have : k = 0 := by simpa using hk
  subst this
  exact h⟩
theorem small_done {t : Tree} {p m pos : List Int} {ops : List OpD} (h : SmallO ops) : SmallO (doneS t p m ops pos).1.ops := by
  unfold doneS
  split
  · exact h
  · exact small_nil
theorem small_step {t : Tree} {p m : List Int} {b : Bool} : SmallO (stepE t p m b).1.ops := by
  unfold stepE
  generalize stepR t p (if b = true then -1 else 1) = R
  split
  · exact small_nil
  · exact small_done small_nil
theorem er_small {t : Tree} (p m : List Int) (b : Bool) (hv : validS t = true) : SmallO (eraseT t p m b).1.ops := by
  unfold eraseT
  obtain ⟨i, hi⟩ : ∃ i, (if b = true then p.getLastD 0 - 1 else p.getLastD 0) = i := ⟨_, rfl⟩
  simp only [hi]
  have h1 : ∀ i : Nat, countS (itemD (rowRes t p.dropLast).1.kids i) ≤ 2000 := fun i => by
    have h1 := itemD_cnt (rowRes t p.dropLast).1.kids i
    have h2 := row_cnt hv p.dropLast
    have h3 := countS_kids (rowRes t p.dropLast).1
    omega
  split
  · split
    · refine small_done (small_one ?_)
      show countS _ + 0 ≤ _
      have := h1 i.toNat
      omega
    · exact small_step
  · generalize hA : aroS t p = A
    rcases A with _ | x
    · exact small_step
    · have hx := hA
      simp only
      obtain ⟨y, hy⟩ : ∃ y, (if b = true then x.at_ else x.at_ + (unwS x).n) = y := ⟨_, rfl⟩
      rw [hy]
      split
      · refine small_done (small_one ?_)
        show countS (filledS x.item x.own.toNat []) + 0 ≤ _
        have h4 : countS x.item ≤ 2000 := by
          unfold aroS at hx
          split at hx
          · cases hx
          · cases hx
            simp only
            unfold itemRes
            split
            · show countS zeroT ≤ _; decide
            · split
              · show countS zeroT ≤ _; decide
              · simp only
                have h1 := itemD_cnt (rowRes t (p.take (p.length - 3))).1.kids (p.getD (p.length - 3) 0).toNat
                have h2 := row_cnt hv (p.take (p.length - 3))
                have h3 := countS_kids (rowRes t (p.take (p.length - 3))).1
                omega
        have h5 := repl_count x.item x.own.toNat (rowT []) 1 (fun hi => by show 1 + 0 ≤ _; omega)
        show countS (replS x.item x.own.toNat (rowT [])) + 0 ≤ _
        omega
      · exact small_step
theorem er_round {b : Bool} {t : Tree} {q : List Int} {o : Int} (h : ErInv b t q o) :
    (eraseS t (q ++ [o]) [] b = (recZ, 8) ∧ t.kids = []) ∨ ∃ ops q' o' t', eraseS t (q ++ [o]) [] b = (⟨ops, q ++ [o], [], q' ++ [o'], []⟩, 0) ∧ applyAllS t ops = (t', 0) ∧ ErInv b t' q' o' ∧ measS (sgnS b) t' (q' ++ [o']) < measS (sgnS b) t (q ++ [o]) ∧ SmallO ops := by
  have hof := of_self h.v h.p
  have he : eraseS t (q ++ [o]) [] b = eraseT t (q ++ [o]) [] b := eraseS_not (by rw [hof]) (by rw [hof]; simp)
  rw [he]
  have hs := er_small (q ++ [o]) [] b h.v
  rcases erase_step b h.v h.p h.c h.e with h1 | ⟨ops, q', o', t', h1, h2, h3, h4, h5, h6, h7⟩
  · exact .inl h1
  · rw [h1] at hs
    exact .inr ⟨ops, q', o', t', h1, h2, ⟨h3, go_nodeE (fun t op h1 h2 => (apply_good h1 h2).2) ops t t' (all_okE h2).2 h.n, h4, h5, h6⟩, h7, hs⟩
end Go.Proofs.YtbjcioknfjofkaaGreat
set_option linter.unusedVariables false
set_option linter.unusedSimpArgs false
namespace Go.Proofs.YtbjcioknfjofkaaGreat
open Go.RowKit
def NF (F : Nat → Prop) (W : World) (k : Nat) : Prop := k < W.heap.size ∧ ¬ F k
structure Stp (F F' : Nat → Prop) (W W' : World) : Prop where
  kept : Kept F W W'
  new : ∀ k, F' k → F k ∨ W.heap.size ≤ k
theorem Stp.of_bl {F : Nat → Prop} {W W' : World} (h : Below W.heap.size W W') : Stp F F W W' := ⟨Kept.of_below h _, fun _ h => .inl h⟩
theorem Stp.keep {α : Type} {E : Enc α} {F F' : Nat → Prop} {W W' : World} {xs : List α} {v : Value} (h : Stp F F' W W') (hr : SliceR E W (NF F W) xs v) : SliceR E W' (NF F' W') xs v :=
  hr.keep (fun q hq => h.kept.cell hq.1 hq.2) (fun k hk => ⟨Nat.lt_of_lt_of_le hk.1 h.kept.size, fun e => (h.new k e).elim hk.2 (fun e => absurd hk.1 (by omega))⟩)
theorem nf_bl {α : Type} {E : Enc α} {F : Nat → Prop} {W W' : World} {xs : List α} {v : Value} (h : Below W.heap.size W W') (hr : SliceR E W (NF F W) xs v) : SliceR E W' (NF F W') xs v := (Stp.of_bl h).keep hr
theorem nf_lt {α : Type} {E : Enc α} {F : Nat → Prop} {W : World} {xs : List α} {v : Value} (hr : SliceR E W (NF F W) xs v) : SliceR E W (Lt W.heap.size) xs v := hr.keep (fun _ _ => rfl) (fun k hk => hk.1)
theorem row_new (X : World) (is : List Int) (T : TypeId) (h64 : ∀ i ∈ is, In64 i) (hl : is.length ≤ maxLen) : IntsR (X.alloc (.cells (is.map (.int .i64 ·)).toArray T)) (fun k => k = X.heap.size) is (.slice (some ⟨X.heap.size, 0, none⟩) is.length is.length) := by
  refine ⟨_, _, is.map (.int .i64 ·), rfl, Nat.le_refl _, hl, fun _ => ⟨X.heap.size, 0, rfl, rfl, fun j u hu => ?_⟩, listR_int.2 ⟨rfl, h64⟩⟩
  rw [Nat.zero_add, World.cell?_alloc_new]
  simpa using hu
theorem row_stp {F F' : Nat → Prop} {X W' : World} {T : TypeId} (is : List Int) (h64 : ∀ i ∈ is, In64 i) (hl : is.length ≤ maxLen) (hF : ∀ k, F k → k < X.heap.size) (hs : Stp F F' (X.alloc (.cells (is.map (.int .i64 ·)).toArray T)) W') : IntsR W' (NF F' W') is (.slice (some ⟨X.heap.size, 0, none⟩) is.length is.length) :=
  hs.keep ((row_new X is T h64 hl).keep (fun _ _ => rfl) (fun k hk => by subst hk; exact ⟨by simp, fun e => absurd (hF _ e) (Nat.lt_irrefl _)⟩))
theorem row_lt (X : World) (is : List Int) (T : TypeId) (h64 : ∀ i ∈ is, In64 i) (hl : is.length ≤ maxLen) : IntsR (X.alloc (.cells (is.map (.int .i64 ·)).toArray T)) (Lt (X.alloc (.cells (is.map (.int .i64 ·)).toArray T)).heap.size) is (.slice (some ⟨X.heap.size, 0, none⟩) is.length is.length) :=
  (row_new X is T h64 hl).keep (fun _ _ => rfl) (fun k hk => by subst hk; unfold Lt; simp)
structure BS (w0 W : World) (F : Nat → Prop) (B : Nat) (x : Array Value) (ops : List OpD) : Prop where
  below : Below w0.heap.size w0 W
  lo : ∀ k, F k → w0.heap.size ≤ k
  hi : ∀ k, F k → k < W.heap.size
  ex : ∃ arr b vo, HasObj W B (.cells arr 102) ∧ arr.size = 25 ∧ (∀ j, j < 6 → arr[j]? = x[j]?) ∧ arr[20]? = some vo ∧ OwnE opE 67 W b ops vo ∧ B < b ∧ b ≤ W.heap.size ∧ arr[23]? = some (.slice none 0 0) ∧ arr[24]? = some (.slice none 0 0) ∧ ∀ k, (k = B ∨ some k = vo.ownBlock) → F k
theorem BS.bl {w0 W W' : World} {F : Nat → Prop} {B : Nat} {x : Array Value} {ops : List OpD} (h : BS w0 W F B x ops) (hb : Below W.heap.size W W') : BS w0 W' F B x ops := by
  obtain ⟨arr, b, vo, ho, h1, h2, h3, h4, h5, h6, h7, h8, h9⟩ := h.ex
  exact ⟨h.below.trans (hb.mono h.below.size), h.lo, fun k hk => Nat.lt_of_lt_of_le (h.hi k hk) hb.size, arr, b, vo, ho.below hb, h1, h2, h3, h4.below hb, h5, Nat.le_trans h6 hb.size, h7, h8, h9⟩
structure BA (w0 W : World) (B : Nat) (x : Array Value) (ops : List OpD) (ap am : List Int) : Prop where
  below : Below w0.heap.size w0 W
  lo : w0.heap.size ≤ B
  ex : ∃ arr vo vap vam, HasObj W B (.cells arr 102) ∧ arr.size = 25 ∧ (∀ j, j < 6 → arr[j]? = x[j]?) ∧ arr[20]? = some vo ∧ arr[23]? = some vap ∧ arr[24]? = some vam ∧ SliceR opE W (fun k => B < k ∧ k < W.heap.size) ops vo ∧ IntsR W (fun k => B < k ∧ k < W.heap.size) ap vap ∧ IntsR W (fun k => B < k ∧ k < W.heap.size) am vam
theorem keepB {α : Type} {E : Enc α} {W W' : World} {B : Nat} {xs : List α} {v : Value} (h : Kept (fun k => k = B) W W') (hr : SliceR E W (fun k => B < k ∧ k < W.heap.size) xs v) : SliceR E W' (fun k => B < k ∧ k < W'.heap.size) xs v :=
  hr.keep (fun q hq => h.cell hq.2 (Nat.ne_of_gt hq.1)) (fun k hk => ⟨hk.1, Nat.lt_of_lt_of_le hk.2 h.size⟩)
theorem BA.bl {w0 W W' : World} {B : Nat} {x : Array Value} {ops : List OpD} {ap am : List Int} (h : BA w0 W B x ops ap am) (hb : Below W.heap.size W W') : BA w0 W' B x ops ap am := by
  obtain ⟨arr, vo, vap, vam, ho, h1, h2, h3, h4, h5, h6, h7, h8⟩ := h.ex
  exact ⟨h.below.trans (hb.mono h.below.size), h.lo, arr, vo, vap, vam, ho.below hb, h1, h2, h3, h4, h5, keepB (Kept.of_below hb _) h6, keepB (Kept.of_below hb _) h7, keepB (Kept.of_below hb _) h8⟩
theorem cb_build (x0 x1 x2 x3 x4 x5 x6 x7 x8 x9 x10 x11 x12 x13 x14 x15 x16 x17 x18 x19 : Value) (w0 W : World) (hW : Below w0.heap.size w0 W) :
    Calls Tryz.prog 39 #[.agg #[x0, x1, x2, x3, x4, x5, x6, x7, x8, x9, x10, x11, x12, x13, x14, x15, x16, x17, x18, x19]] W fun e w' => ∃ B F, e = .returned (.pointer (some ⟨B, 0, none⟩)) ∧ BS w0 w' F B #[x0, x1, x2, x3, x4, x5, x6, x7, x8, x9, x10, x11, x12, x13, x14, x15, x16, x17, x18, x19] [] ∧ Stp (fun _ => False) F W w' := by
  refine (build_any x0 x1 x2 x3 x4 x5 x6 x7 x8 x9 x10 x11 x12 x13 x14 x15 x16 x17 x18 x19 W).mono ?_
  rintro e w' ⟨B, rfl, hB, ho, hb⟩
  have hs := hW.size
  refine ⟨B, fun k => k = B, rfl, ⟨hW.trans (hb.mono hs), by rintro k rfl; omega, by rintro k rfl; exact ho.lt, _, B + 1, .slice none 0 0, ho, rfl, fun j hj => ?_, rfl, OwnE.nil _ _, by omega, ho.lt, rfl, rfl, fun k hk => ?_⟩, Kept.of_below hb _, fun k e => .inr (e ▸ hB)⟩
  · rcases j with _ | _ | _ | _ | _ | _ | j <;> first | rfl | omega
  · rcases hk with hk | hk
    · exact hk
    · simp [Value.ownBlock] at hk
theorem cb_op {w0 W : World} {F : Nat → Prop} {B : Nat} {x : Array Value} {ops : List OpD} (h : BS w0 W F B x ops) (op : OpD) (Ar An : Option Addr) (cr cn : Nat) (hol : ops.length ≤ 1000)
    (hr : IntsR W (Lt W.heap.size) op.row (.slice Ar op.row.length cr)) (hn : SliceR treeE W (Lt W.heap.size) op.nodes (.slice An op.nodes.length cn)) (hrl : op.row.length ≤ 1000000) (hnc : countsS op.nodes ≤ 1000000) (hk : In64 op.kind) (ha : In64 op.at_) (hn64 : In64 op.n) (hs : In64 op.slot) (hot : op.old.size ≤ maxLen) (htx : op.text.size ≤ maxLen) :
    Calls Tryz.prog 40 #[.pointer (some ⟨B, 0, none⟩), .agg (opC op (.slice Ar op.row.length cr) (.slice An op.nodes.length cn))] W fun e w' => ∃ F', e = .returned (.pointer (some ⟨B, 0, none⟩)) ∧ BS w0 w' F' B x (ops ++ [op]) ∧ Stp F F' W w' := by
  obtain ⟨arr, b, vo, ho, hz, h6, h20, hown, hBb, hb, h23, h24, hF⟩ := h.ex
  refine (bop_any B b arr vo ops op Ar An cr cn W ho h20 hown hBb hb hol hr hn hrl hnc hk ha hn64 hs hot htx).mono ?_
  rintro e w' ⟨vo', rfl, ho', hown', hkp, hnew⟩
  have hkF := hkp.mono (fun k _ e => hF k e)
  have hBF := hF B (.inl rfl)
  have hlo := h.lo B hBF
  refine ⟨fun k => k = B ∨ some k = vo'.ownBlock, rfl, ⟨h.below.trans (hkF.below h.below.size h.lo), ?_, ?_, _, b, vo', ho', by simpa using hz, fun j hj => ?_, by rw [Array.getElem?_setIfInBounds_self_of_lt]; omega, hown', hBb, Nat.le_trans hb hkp.size, ?_, ?_, fun k e => e⟩, hkF, ?_⟩
  · rintro k (rfl | e)
    · exact hlo
    · have := (hown'.own_lt k e.symm).1; omega
  · rintro k (rfl | e)
    · exact ho'.lt
    · exact (hown'.own_lt k e.symm).2
  · rw [Array.getElem?_setIfInBounds_ne (by omega)]; exact h6 j hj
  · rw [Array.getElem?_setIfInBounds_ne (by decide)]; exact h23
  · rw [Array.getElem?_setIfInBounds_ne (by decide)]; exact h24
  · rintro k (rfl | e)
    · exact .inl hBF
    · exact (hnew k e).imp (fun e => hF k (.inr e)) id
theorem cb_at {w0 W : World} {F : Nat → Prop} {B : Nat} {x : Array Value} {ops : List OpD} (h : BS w0 W F B x ops) (p r : List Int) (Ap Ar : Option Addr) (cp cr : Nat) (hp : IntsR W (Lt W.heap.size) p (.slice Ap p.length cp)) (hr : IntsR W (Lt W.heap.size) r (.slice Ar r.length cr)) (hl : p.length + r.length ≤ 100000) :
    Calls Tryz.prog 42 #[.pointer (some ⟨B, 0, none⟩), .slice Ap p.length cp, .slice Ar r.length cr] W fun e w' => e = .returned (.pointer (some ⟨B, 0, none⟩)) ∧ BA w0 w' B x ops (p ++ r) [] := by
  obtain ⟨arr, b, vo, ho, hz, h6, h20, hown, hBb, hb, h23, h24, hF⟩ := h.ex
  refine (bat_any B arr p r Ap Ar cp cr W ho hz hp hr hl).mono ?_
  rintro e w' ⟨vp, rfl, ho', hv, hkp⟩
  have hlo := h.lo B (hF B (.inl rfl))
  have hlt := ho.lt
  refine ⟨rfl, h.below.trans (hkp.below h.below.size (fun k e => by rw [e]; exact hlo)), hlo, _, vo, vp, .slice none 0 0, ho', by simpa using hz, fun j hj => ?_, ?_, ?_, ?_, keepB hkp (hown.rows.keep (fun _ _ => rfl) (fun k hk => ⟨Nat.lt_of_lt_of_le hBb hk.1, hk.2⟩)), hv.keep (fun _ _ => rfl) (fun k hk => ⟨Nat.lt_of_lt_of_le hlt hk.1, hk.2⟩), SliceR.nil_ 0 (Nat.zero_le _) none⟩
  · rw [Array.getElem?_setIfInBounds_ne (by omega), Array.getElem?_setIfInBounds_ne (by omega)]; exact h6 j hj
  · rw [Array.getElem?_setIfInBounds_ne (by decide), Array.getElem?_setIfInBounds_ne (by decide)]; exact h20
  · rw [Array.getElem?_setIfInBounds_ne (by decide), Array.getElem?_setIfInBounds_self_of_lt (by omega)]
  · rw [Array.getElem?_setIfInBounds_self_of_lt (by simp; omega)]
def RecB (w0 : World) (r : RecD × Int) (e : Ending) (w' : World) : Prop :=
  ∃ Ao co Ap cp Am cm Aap cap Aam cam, e = .returned (.tuple #[.agg #[.slice Ao r.1.ops.length co, .slice Ap r.1.bp.length cp, .slice Am r.1.bm.length cm, .slice Aap r.1.ap.length cap, .slice Aam r.1.am.length cam], .int .i64 r.2]) ∧ SliceR opE w' (Lt w'.heap.size) r.1.ops (.slice Ao r.1.ops.length co) ∧ IntsR w' (Lt w'.heap.size) r.1.bp (.slice Ap r.1.bp.length cp) ∧ IntsR w' (Lt w'.heap.size) r.1.bm (.slice Am r.1.bm.length cm) ∧ IntsR w' (Lt w'.heap.size) r.1.ap (.slice Aap r.1.ap.length cap) ∧ IntsR w' (Lt w'.heap.size) r.1.am (.slice Aam r.1.am.length cam) ∧ Below w0.heap.size w0 w'
def RecF (w0 : World) (r : RecD × Int) (e : Ending) (w' : World) : Prop :=
  ∃ Ao co Ap cp Am cm Aap cap Aam cam, e = .returned (.tuple #[.agg #[.slice Ao r.1.ops.length co, .slice Ap r.1.bp.length cp, .slice Am r.1.bm.length cm, .slice Aap r.1.ap.length cap, .slice Aam r.1.am.length cam], .int .i64 r.2]) ∧ SliceR opE w' (fun k => w0.heap.size ≤ k ∧ k < w'.heap.size) r.1.ops (.slice Ao r.1.ops.length co) ∧ IntsR w' (fun k => w0.heap.size ≤ k ∧ k < w'.heap.size) r.1.bp (.slice Ap r.1.bp.length cp) ∧ IntsR w' (fun k => w0.heap.size ≤ k ∧ k < w'.heap.size) r.1.bm (.slice Am r.1.bm.length cm) ∧ IntsR w' (fun k => w0.heap.size ≤ k ∧ k < w'.heap.size) r.1.ap (.slice Aap r.1.ap.length cap) ∧ IntsR w' (fun k => w0.heap.size ≤ k ∧ k < w'.heap.size) r.1.am (.slice Aam r.1.am.length cam) ∧ Below w0.heap.size w0 w'
theorem cb_done {w0 W : World} {B : Nat} {x : Array Value} {ops : List OpD} {ap am : List Int} (h : BA w0 W B x ops ap am) (t : Tree) (p m : List Int) (A Ap Am : Option Addr) (cap cp cm : Nat)
    (h0 : x[0]? = some (.int .i64 t.kind)) (h1 : x[1]? = some (.string t.text)) (h2 : x[2]? = some (.int .i64 t.cols)) (h3 : x[3]? = some (.slice A t.kids.length cap)) (h4 : x[4]? = some (.slice Ap p.length cp)) (h5 : x[5]? = some (.slice Am m.length cm))
    (hv : SliceR treeE W (Lt W.heap.size) t.kids (.slice A t.kids.length cap)) (hok : NodeOk t) (hct : countS t ≤ 900000) (hp : IntsR W (Lt W.heap.size) p (.slice Ap p.length cp)) (hm : IntsR W (Lt W.heap.size) m (.slice Am m.length cm)) (hpl : p.length ≤ 1000000) (hml : m.length ≤ 1000000) (hol : ops.length ≤ 1000) :
    Calls Tryz.prog 43 #[.pointer (some ⟨B, 0, none⟩)] W (RecF w0 (doneR t p m ops ap am)) := by
  obtain ⟨arr, vo, vap, vam, ho, hz, h6, h20, h23, h24, hops, hap, ham⟩ := h.ex
  obtain ⟨Ao, co, rfl⟩ := hops.form
  refine (done_any B arr t p m ap am ops A Ap Am Ao cap cp cm co vap vam W ho hz ((h6 0 (by decide)).trans h0) ((h6 1 (by decide)).trans h1) ((h6 2 (by decide)).trans h2) ((h6 3 (by decide)).trans h3) ((h6 4 (by decide)).trans h4) ((h6 5 (by decide)).trans h5) h20 h23 h24 hv hok hct hp hm hpl hml hops hol hap ham).mono ?_
  rintro e w' ⟨vo, vbp, vbm, vap, vam, rfl, r1, r2, r3, r4, r5, hk⟩
  obtain ⟨A1, c1, rfl⟩ := r1.form
  obtain ⟨A2, c2, rfl⟩ := r2.form
  obtain ⟨A3, c3, rfl⟩ := r3.form
  obtain ⟨A4, c4, rfl⟩ := r4.form
  obtain ⟨A5, c5, rfl⟩ := r5.form
  have hlo := h.lo
  have kn : ∀ {α : Type} {E : Enc α} {xs : List α} {v : Value}, SliceR E w' (fun k => B < k ∧ k < w'.heap.size) xs v → SliceR E w' (fun k => w0.heap.size ≤ k ∧ k < w'.heap.size) xs v := fun h => h.keep (fun _ _ => rfl) (fun k hk => ⟨Nat.le_trans hlo (Nat.le_of_lt hk.1), hk.2⟩)
  exact ⟨A1, c1, A2, c2, A3, c3, A4, c4, A5, c5, rfl, kn r1, kn r2, kn r3, kn r4, kn r5, h.below.trans (hk.below h.below.size (fun k e => by rw [e]; exact h.lo))⟩
theorem RecB.store {w0 : World} {r : RecD × Int} {e : Ending} {w' w2 : World} {g : Nat} (h : RecB w0 r e w') (hs : SlB w' g) (hk : ∀ k, k ≠ g → w2.heap[k]? = w'.heap[k]?) (hz : w2.heap.size = w'.heap.size) (hb : Below w0.heap.size w0 w2) : RecB w0 r e w2 := by
  obtain ⟨A1, c1, A2, c2, A3, c3, A4, c4, A5, c5, rfl, r1, r2, r3, r4, r5, _⟩ := h
  have ki : ∀ {xs : List Int} {v : Value}, IntsR w' (Lt w'.heap.size) xs v → IntsR w2 (Lt w2.heap.size) xs v := fun h => (ints_av hs h).keep (fun q hq => World.cell?_of_block (hk _ hq.2)) (fun k hk => by unfold Lt; rw [hz]; exact hk.1)
  exact ⟨A1, c1, A2, c2, A3, c3, A4, c4, A5, c5, rfl, (ops_av hs r1).keep (fun q hq => World.cell?_of_block (hk _ hq.2)) (fun k hk => by unfold Lt; rw [hz]; exact hk.1), ki r2, ki r3, ki r4, ki r5, hb⟩
theorem RecF.store {w0 : World} {r : RecD × Int} {e : Ending} {w' w2 : World} {g : Nat} (h : RecF w0 r e w') {w1 : World} (hz1 : w1.heap.size ≤ w0.heap.size) (hs : SlB w' g) (hk : ∀ k, k ≠ g → w2.heap[k]? = w'.heap[k]?) (hz : w2.heap.size = w'.heap.size) (hb : Below w1.heap.size w1 w2) : RecF w1 r e w2 := by
  obtain ⟨A1, c1, A2, c2, A3, c3, A4, c4, A5, c5, rfl, r1, r2, r3, r4, r5, _⟩ := h
  have ki : ∀ {xs : List Int} {v : Value}, IntsR w' (fun k => w0.heap.size ≤ k ∧ k < w'.heap.size) xs v → IntsR w2 (fun k => w1.heap.size ≤ k ∧ k < w2.heap.size) xs v := fun h => (ints_av hs h).keep (fun q hq => World.cell?_of_block (hk _ hq.2)) (fun k hk => ⟨Nat.le_trans hz1 hk.1.1, by rw [hz]; exact hk.1.2⟩)
  exact ⟨A1, c1, A2, c2, A3, c3, A4, c4, A5, c5, rfl, (ops_av hs r1).keep (fun q hq => World.cell?_of_block (hk _ hq.2)) (fun k hk => ⟨Nat.le_trans hz1 hk.1.1, by rw [hz]; exact hk.1.2⟩), ki r2, ki r3, ki r4, ki r5, hb⟩
end Go.Proofs.YtbjcioknfjofkaaGreat
set_option linter.unusedVariables false
set_option linter.unusedSimpArgs false
set_option maxRecDepth 100000
namespace Go.Proofs.YtbjcioknfjofkaaGreat
open Go.RowKit Go.ChangeShapes Go.WideShapes Go.ChangeAt
theorem own : ownKnob Tryz.prog.godebug = none := by kernel_rfl
theorem laidOut : laidOutB Tryz.prog = true := by kernel_rfl
theorem rd_node : Tryz.prog.readableRec 24 = true ∧ 24 < Tryz.prog.types.size := ⟨by kernel_rfl, of_decide_eq_true (by kernel_rfl)⟩
section
variable {H : Type} {enc : TypeId × Value → H} {w : World} {base : Nat} {spare : Nat → Bool} {held : Bool}
theorem open_node {r : Reach} {b0 : Nat} {v : Value} {d : DataW H} {ps : List MemPlace} (hv : Value.okWide Tryz.prog w r b0 24 v) (h : DataW.Trod enc Tryz.prog w base spare held 24 v d ps) :
    ∃ (t : Tree) (A : Option Addr) (c : Nat), v = .agg #[.int .i64 t.kind, .string t.text, .int .i64 t.cols, .slice A t.kids.length c] ∧ In64 t.kind ∧ In64 t.cols ∧ t.text.size ≤ maxLen ∧ TreesS w (Lt w.heap.size) t.kids (.slice A t.kids.length c) := by
  obtain ⟨cs, rfl, hsz⟩ := okWide_struct Tryz.underlying24 hv
  obtain ⟨fuel, hf⟩ := h
  obtain ⟨t, ht⟩ := read_tree fuel _ _ hf
  obtain ⟨v, hcs, h1, h2, h3, h4⟩ := treeR_mk.1 ht
  obtain ⟨A, c, rfl⟩ := h4.form
  refine ⟨t, A, c, ?_, h1, h2, h3, h4⟩
  congr 1
  exact Array.toList_inj.1 hcs
end
end Go.Proofs.YtbjcioknfjofkaaGreat
set_option linter.unusedVariables false
set_option linter.unusedSimpArgs false
set_option maxRecDepth 100000
namespace Go.Proofs.YtbjcioknfjofkaaGreat
open Go.RowKit Go.ChangeShapes Go.WideShapes Go.ChangeAt
theorem rd_bool : Tryz.prog.readableRec 4 = true ∧ 4 < Tryz.prog.types.size := ⟨by kernel_rfl, of_decide_eq_true (by kernel_rfl)⟩
section
variable {H : Type} {enc : TypeId × Value → H} {w : World} {base : Nat} {spare : Nat → Bool} {held : Bool}
end
end Go.Proofs.YtbjcioknfjofkaaGreat
