/- Texts put together: ConP, Beg, PCon. -/
import Derived.Test.YteckkamlaibjbaaGF
import Derived.Test.YteckkamlaibjbaaInts
import Derived.Test.YteckkamlaibjbaaCuts
import Derived.Test.YteckkamlaibjbaaGA
/- Plain: the row of the image of a position consists of the same items. -/
set_option linter.unusedVariables false
set_option linter.unusedSimpArgs false
namespace Go.Proofs.Yteckkamlaibjbaa
open Go.RowKit

theorem find_some (t : Tree) (i k : Int) (p : List Int) (hi : 0 ≤ i ∧ i.toNat < t.kids.length) (hk : 0 ≤ k ∧ k.toNat < (kidS t i).kids.length) : findS t (i :: k :: p) = findS (kidS (kidS t i) k) p := by
  rw [findS, dif_pos hi]
  have e : kidS t i = t.kids[i.toNat] := kidS_get hi.2
  rw [e] at hk ⊢
  rw [dif_pos hk, kidS_get hk.2]
/-- Two trees with the same kids have the same rows behind a path that is not empty. -/
theorem find_kids (t u : Tree) (h : t.kids = u.kids) (i k : Int) (p : List Int) : findS t (i :: k :: p) = findS u (i :: k :: p) := by
  rw [findS, findS]
  simp only [h]
theorem find_append : (p : List Int) → (t : Tree) → (q : List Int) → (findS t p).2 = true → findS t (p ++ q) = findS (findS t p).1 q
  | [], t, q, _ => rfl
  | [_], t, q, h => by simp [findS] at h
  | i :: k :: p, t, q, h => by
    obtain ⟨hi, hk, he⟩ := find_step t i k p h
    rw [he] at h ⊢
    show findS t (i :: k :: (p ++ q)) = _
    rw [find_some t i k (p ++ q) hi hk]
    exact find_append p _ q h
theorem find_put_in : (p : List Int) → (t : Tree) → (l : List Tree) → (q : List Int) → (findS t p).2 = true → findS (putS t p l) (p ++ q) = findS (rowT l) q
  | [], t, l, q, _ => rfl
  | [_], t, l, q, h => by simp [findS] at h
  | i :: k :: p, t, l, q, h => by
    obtain ⟨hi, hk, he⟩ := find_step t i k p h
    rw [he] at h
    show findS (putS t (i :: k :: p) l) (i :: k :: (p ++ q)) = _
    rw [putS]
    rw [find_some _ i k (p ++ q) (by rw [replS_len]; exact hi) (by rw [replS_same hi.2, replS_len]; exact hk)]
    rw [replS_same hi.2, replS_same hk.2]
    exact find_put_in p _ l q h
theorem find_put_out : (p : List Int) → (t : Tree) → (l : List Tree) → (q : List Int) → (findS t p).2 = true → ¬ p <+: q → ¬ q <+: p → (findS t q).2 = true → findS (putS t p l) q = findS t q
  | [], t, l, q, _, hn, _, _ => absurd (List.nil_prefix) hn
  | [_], t, l, q, h, _, _, _ => by simp [findS] at h
  | i :: k :: p, t, l, [], h, _, hq, _ => absurd (List.nil_prefix) hq
  | i :: k :: p, t, l, [x], h, _, _, hf => by simp [findS] at hf
  | i :: k :: p, t, l, x :: y :: q, h, hn, hq, hf => by
    obtain ⟨hi, hk, he⟩ := find_step t i k p h
    obtain ⟨hx, hy, he'⟩ := find_step t x y q hf
    rw [he] at h
    rw [he'] at hf ⊢
    rw [putS]
    by_cases hxi : x.toNat = i.toNat
    · obtain rfl : x = i := by omega
      by_cases hyk : y.toNat = k.toNat
      · obtain rfl : y = k := by omega
        rw [find_some _ x y q (by rw [replS_len]; exact hx) (by rw [replS_same hi.2, replS_len]; exact hy), replS_same hi.2, replS_same hk.2]
        exact find_put_out p _ l q h (fun hp => hn (by obtain ⟨s, rfl⟩ := hp; exact ⟨s, rfl⟩)) (fun hp => hq (by obtain ⟨s, rfl⟩ := hp; exact ⟨s, rfl⟩)) hf
      · rw [find_some _ x y q (by rw [replS_len]; exact hx) (by rw [replS_same hi.2, replS_len]; exact hy), replS_same hi.2, replS_other hyk]
    · rw [find_some _ x y q (by rw [replS_len]; exact hx) (by rw [replS_other hxi]; exact hy), replS_other hxi]
/-- A position's path is that of a row. -/
theorem pos_find : (p : List Int) → (t : Tree) → (o : Int) → posIn t (p ++ [o]) = true → (findS t p).2 = true
  | [], t, o, _ => rfl
  | [i], t, o, h => by have := posIn_odd _ _ h; simp at this
  | i :: k :: p, t, o, h => by
    have h' : posIn t (i :: k :: (p ++ [o])) = true := h
    rw [posIn_step] at h'
    simp only [Bool.and_eq_true, decide_eq_true_eq] at h'
    rw [find_some t i k p h'.1 h'.2.1]
    exact pos_find p _ o h'.2.2

theorem row_find (l : List Tree) (i : Nat) (s : Int) (q : List Int) (hi : i < l.length) (hs : 0 ≤ s ∧ s.toNat < (itemD l i).kids.length) : findS (rowT l) ((i : Int) :: s :: q) = findS (kidS (itemD l i) s) q := by
  have h2 : kidS (rowT l) (i : Int) = itemD l i := by unfold kidS; rw [Int.toNat_natCast]; rfl
  rw [find_some (rowT l) i s q ⟨by omega, by rw [Int.toNat_natCast]; exact hi⟩ (by rw [h2]; exact hs), h2]

set_option maxHeartbeats 1000000 in
theorem deep_find {l l' : List Tree} {op : OpD} {a : Nat} (hd : Done l l' op a) (i s : Int) (r : List Int) (o : Int) (h : posIn (rowT l) (i :: s :: (r ++ [o])) = true) (hl2 : op.kind = 2 → ¬ (op.at_ ≤ i ∧ i < op.at_ + op.nodes.length)) (hl4 : op.kind = 4 → i = op.at_ → s = op.slot) (hs4 : op.kind = 4 → i = op.at_ → s = op.slot → r ≠ []) :
    ∃ q, insideS op i s (r ++ [o]) = q ++ [o] ∧ findS (rowT l') q = findS (rowT l) (i :: s :: r) := by
  obtain ⟨i', rfl⟩ := row_nonneg h
  obtain ⟨hil, hsk, hq⟩ := (row_deep l i' s (r ++ [o])).1 h
  have hfl := row_find l i' s r hil hsk
  obtain ⟨hat, hn, hK, ⟨hk1, hk5⟩, H1, H2, H3, H4, H5⟩ := hd
  have go : ∀ j' : Nat, j' < l'.length → itemD l' j' = itemD l i' → findS (rowT l') ((j' : Int) :: s :: r) = findS (rowT l) ((i' : Int) :: s :: r) := fun j' h1 h2 => by
    rw [hfl, row_find l' j' s r h1 (by rw [h2]; exact hsk), h2]
  unfold insideS
  rw [hat]
  rw [hat] at hl2 hl4 hs4
  simp only [List.cons_append, List.nil_append]
  split
  · rename_i hlt
    have hia : i' < a := by omega
    refine ⟨(i' : Int) :: s :: r, rfl, ?_⟩
    have hk : op.kind = 1 ∨ op.kind = 2 ∨ op.kind = 3 ∨ op.kind = 4 ∨ op.kind = 5 := by omega
    rcases hk with hk | hk | hk | hk | hk
    · obtain ⟨h2, rfl⟩ := H1 hk
      clear H1 H2 H3 H4 H5
      exact go i' (by rw [splice_len h2]; omega) (splice_lo h2 hia)
    · obtain ⟨h2, rfl⟩ := H2 hk
      clear H1 H2 H3 H4 H5
      exact go i' (by rw [splice_len (by omega)]; omega) (splice_lo (by omega) hia)
    · obtain ⟨h2, t, rfl, _, _⟩ := H3 hk
      clear H1 H2 H3 H4 H5
      exact go i' (by rw [splice_len (by omega)]; omega) (splice_lo (by omega) hia)
    · obtain ⟨h2, rfl, _, _, _⟩ := H4 hk
      clear H1 H2 H3 H4 H5
      exact go i' (by rw [splice_len (by omega)]; omega) (splice_lo (by omega) hia)
    · obtain ⟨h2, t, rfl, _⟩ := H5 hk
      clear H1 H2 H3 H4 H5
      exact go i' (by rw [splice_len (by omega)]; omega) (splice_lo (by omega) hia)
  rename_i hge
  have hia : a ≤ i' := by omega
  split
  · rename_i hk
    obtain ⟨h2, rfl⟩ := H1 hk
    clear H1 H2 H3 H4 H5
    have := splice_hi (l := l) (bs := op.nodes) (a := a) (b := a) (i := i') h2 hia
    have h3 := go (a + op.nodes.length + (i' - a)) (by rw [splice_len h2]; omega) this
    rw [show (((a + op.nodes.length + (i' - a) : Nat)) : Int) = (i' : Int) + op.nodes.length by omega] at h3
    exact ⟨_, rfl, h3⟩
  rename_i c1
  split
  · rename_i hk
    obtain ⟨h2, rfl⟩ := H2 hk
    clear H1 H2 H3 H4 H5
    split
    · rename_i hlt
      exact absurd ⟨by omega, hlt⟩ (hl2 hk)
    · have := splice_hi (l := l) (bs := []) (a := a) (b := a + op.nodes.length) (i := i') (by omega) (by omega)
      have h3 := go (a + 0 + (i' - (a + op.nodes.length))) (by rw [splice_len (by omega), List.length_nil]; omega) this
      rw [show (((a + 0 + (i' - (a + op.nodes.length)) : Nat)) : Int) = (i' : Int) - op.nodes.length by omega] at h3
      exact ⟨_, rfl, h3⟩
  rename_i c2
  split
  · rename_i hk
    have hn0 := hn (Or.inl hk)
    obtain ⟨h2, t, rfl, ⟨ht0, ht1⟩, hkid⟩ := H3 hk
    clear H1 H2 H3 H4 H5
    split
    · rename_i hlt
      have hi : itemD (spliceS l a (a + op.n.toNat) [t]) a = t := by
        have := splice_mid (l := l) (bs := [t]) (a := a) (b := a + op.n.toNat) (i := 0) (by omega) (by simp)
        rw [Nat.add_zero] at this
        rw [this]; rfl
      refine ⟨(a : Int) :: op.slot :: ((i' : Int) - a) :: s :: r, rfl, ?_⟩
      rw [row_find _ a op.slot _ (by rw [splice_len (by omega)]; simp; omega) (by rw [hi]; exact ⟨ht0, ht1⟩), hi, hkid, hfl]
      obtain ⟨d, hd⟩ : ∃ d : Nat, (i' : Int) - a = d := ⟨i' - a, by omega⟩
      have hit : itemD ((l.take (a + op.n.toNat)).drop a) d = itemD l i' := by rw [itemD_drop, itemD_take _ _ _ (by omega), show a + d = i' by omega]
      rw [hd, row_find _ d s r (by simp; omega) (by rw [hit]; exact hsk), hit]
    · have := splice_hi (l := l) (bs := [t]) (a := a) (b := a + op.n.toNat) (i := i') (by omega) (by omega)
      have h3 := go (a + 1 + (i' - (a + op.n.toNat))) (by rw [splice_len (by omega)]; simp; omega) this
      rw [show (((a + 1 + (i' - (a + op.n.toNat)) : Nat)) : Int) = (i' : Int) - op.n + 1 by omega] at h3
      exact ⟨_, rfl, h3⟩
  rename_i c3
  split
  · rename_i hk
    have hn0 := hn (Or.inr hk.1)
    obtain ⟨h2, rfl, hlen, hsl0, hsl1⟩ := H4 hk.1
    clear H1 H2 H3 H4 H5
    have hss := hl4 hk.1 hk.2
    have hrn := hs4 hk.1 hk.2 hss
    have hia' : i' = a := by omega
    subst hia'
    subst hss
    rw [if_neg (Int.lt_irrefl _), if_neg (Int.lt_irrefl _)]
    have hodd := posIn_odd _ _ hq
    match r, hrn, hq, hodd, hfl with
    | [], hrn, _, _, _ => exact absurd rfl hrn
    | [z], _, _, hodd, _ => simp at hodd
    | z :: y2 :: r2, _, hq, _, hfl =>
      simp only [List.cons_append, List.headD_cons, List.tail_cons]
      refine ⟨((i' : Int) + z) :: y2 :: r2, rfl, ?_⟩
      have hq2 : posIn (rowT (kidS (itemD l i') op.slot).kids) (z :: y2 :: (r2 ++ [o])) = true := by
        rw [← posIn_kids (kidS (itemD l i') op.slot) (rowT (kidS (itemD l i') op.slot).kids) rfl]; exact hq
      obtain ⟨z', rfl⟩ := row_nonneg hq2
      obtain ⟨h3, h4, h5⟩ := (row_deep _ _ _ _).1 hq2
      have hm := splice_mid (l := l) (bs := (kidS (itemD l i') op.slot).kids) (a := i') (b := i' + 1) (i := z') (by omega) h3
      rw [hfl, find_kids (kidS (itemD l i') op.slot) (rowT (kidS (itemD l i') op.slot).kids) rfl, row_find _ z' y2 r2 h3 h4]
      rw [show (i' : Int) + (z' : Int) = ((i' + z' : Nat) : Int) by omega, row_find _ (i' + z') y2 r2 (by rw [splice_len (by omega)]; omega) (by rw [hm]; exact h4), hm]
  rename_i c4
  split
  · rename_i hk
    have hn0 := hn (Or.inr hk)
    obtain ⟨h2, rfl, hlen, hsl0, hsl1⟩ := H4 hk
    clear H1 H2 H3 H4 H5
    have hne : i' ≠ a := fun e => c4 ⟨hk, by omega⟩
    have := splice_hi (l := l) (bs := (kidS (itemD l a) op.slot).kids) (a := a) (b := a + 1) (i := i') (by omega) (by omega)
    have h3 := go (a + (kidS (itemD l a) op.slot).kids.length + (i' - (a + 1))) (by rw [splice_len (by omega)]; omega) this
    rw [show (((a + (kidS (itemD l a) op.slot).kids.length + (i' - (a + 1)) : Nat)) : Int) = (i' : Int) - 1 + op.n by omega] at h3
    exact ⟨_, rfl, h3⟩
  · rename_i hk
    obtain ⟨h2, t, rfl, htk⟩ := H5 (by omega)
    clear H1 H2 H3 H4 H5
    refine ⟨(i' : Int) :: s :: r, rfl, ?_⟩
    rcases Nat.lt_or_ge a i' with h3 | h3
    · have := splice_hi (l := l) (bs := [t]) (a := a) (b := a + 1) (i := i') (by omega) (by omega)
      have h4 := go (a + 1 + (i' - (a + 1))) (by rw [splice_len (by omega)]; simp; omega) this
      rw [show (((a + 1 + (i' - (a + 1)) : Nat)) : Int) = (i' : Int) by omega] at h4
      exact h4
    · obtain rfl : i' = a := by omega
      have hi : itemD (spliceS l i' (i' + 1) [t]) i' = t := splice_mid (l := l) (bs := [t]) (a := i') (b := i' + 1) (i := 0) (by omega) (by simp)
      have hks : kidS t s = kidS (itemD l i') s := by unfold kidS; rw [htk]
      rw [hfl, row_find _ i' s r (by rw [splice_len (by omega)]; simp; omega) (by rw [hi, htk]; exact hsk), hi, hks]

/-- The law of the content. -/
theorem content_pos {t m : Tree} {op : OpD} (h : applyS t op = (m, 0)) (p : List Int) (o : Int) (hp : posIn t (p ++ [o]) = true) (hl : lostS op (p ++ [o]) = false) (hpre : ¬ p <+: op.row) (hs : ¬ (op.kind = 4 ∧ p = op.row ++ [op.at_, op.slot])) :
    ∃ q, mapS op (p ++ [o]) true = q ++ [o] ∧ (findS t p).2 = true ∧ findS m q = findS t p := by
  obtain ⟨hv, hvm, hf, hfm, l', a, rfl, hd⟩ := apply_ok h
  have hfp := pos_find p t o hp
  rw [map_eq]
  rw [lost_eq] at hl
  by_cases hr : op.row <+: p
  · obtain ⟨r, rfl⟩ := hr
    have hodd := posIn_odd _ _ hp
    have heven := find_even _ _ hf
    rw [List.append_assoc] at hp hl ⊢
    have hin : posIn (rowT (findS t op.row).1.kids) (r ++ [o]) = true := by
      rw [posIn_find _ _ _ hf] at hp
      rw [← posIn_kids (findS t op.row).1 (rowT (findS t op.row).1.kids) rfl]; exact hp
    match r, hin, hl, hp with
    | [], _, _, _ => exact absurd (by simp) hpre
    | [x], hin, _, _ => have := posIn_odd _ _ hin; simp at this
    | x :: y :: r, hin, hl, hp =>
      have hat := hd.at_
      have e1 : refMapS op (op.row ++ (x :: y :: r ++ [o])) true = op.row ++ insideS op x y (r ++ [o]) := by
        rw [map_suf]
        cases r with
        | nil => rfl
        | cons z r => rfl
      have hw : withinS (op.row ++ (x :: y :: r ++ [o])) op.row = true := by
        rw [within_iff]; simp
      have hx : (op.row ++ (x :: y :: r ++ [o])).getD op.row.length 0 = x := by simp [List.getD_eq_getElem?_getD, List.getElem?_append_right]
      have hy : (op.row ++ (x :: y :: r ++ [o])).getD (op.row.length + 1) 0 = y := by simp [List.getD_eq_getElem?_getD, List.getElem?_append_right]
      have hlen : (op.row ++ (x :: y :: r ++ [o])).length = op.row.length + r.length + 3 := by simp; omega
      unfold refLostS at hl
      rw [if_pos hw, hx, hy, hlen] at hl
      have hl2 : op.kind = 2 → ¬ (op.at_ ≤ x ∧ x < op.at_ + op.nodes.length) := fun hk => by
        rw [if_pos hk, if_neg (by omega)] at hl
        simpa using hl
      have hl4 : op.kind = 4 → x = op.at_ → y = op.slot := fun hk hxa => by
        rw [if_neg (by omega), if_pos hk] at hl
        simp only [decide_eq_false_iff_not] at hl
        exact Decidable.byContradiction fun hy => hl ⟨by omega, hxa, hy⟩
      obtain ⟨q, hq1, hq2⟩ := deep_find hd x y r o hin hl2 hl4 (fun hk hxa hys hrn => hs ⟨hk, by rw [hrn, hxa, hys]⟩)
      refine ⟨op.row ++ q, by rw [e1, hq1, List.append_assoc], hfp, ?_⟩
      rw [find_put_in _ _ _ _ hf, hq2, find_append _ _ _ hf]
      exact find_kids _ _ rfl x y r
  · have hr2 : ¬ op.row <+: p ++ [o] := fun hc => by
      obtain ⟨s, hs2⟩ := hc
      rcases List.eq_nil_or_concat s with rfl | ⟨s', z, rfl⟩
      · rw [List.append_nil] at hs2
        exact hpre (by rw [hs2]; exact List.prefix_append _ _)
      · rw [List.concat_eq_append, ← List.append_assoc] at hs2
        have := List.append_inj_left' hs2 (by simp)
        exact hr ⟨s', this⟩
    refine ⟨p, map_out (by
      cases hw : withinS (p ++ [o]) op.row
      · rfl
      · obtain ⟨q, hq, _⟩ := within_split hw
        exact absurd ⟨q, hq.symm⟩ hr2) true, hfp, find_put_out _ _ _ _ hf hr hpre hfp⟩
/-- What the law asks, as one fact. -/
theorem content_plain {t m : Tree} {op : OpD} {er : Int} (h : applyS t op = (m, er)) (p : List Int) (o : Int) (hp : posIn t (p ++ [o]) = true) (hl : lostS op (p ++ [o]) = false) :
    er = 0 → ¬ p <+: op.row → ¬ (op.kind = 4 ∧ p = op.row ++ [op.at_, op.slot]) → ∃ q, mapS op (p ++ [o]) true = q ++ [o] ∧ (findS t p).2 = true ∧ findS m q = findS t p := by
  intro he
  subst he
  exact content_pos h p o hp hl
end Go.Proofs.Yteckkamlaibjbaa
/- law13's begins. -/
set_option linter.unusedVariables false
set_option linter.unusedSimpArgs false
set_option maxRecDepth 100000
namespace Go.Proofs.Yteckkamlaibjbaa
open Go.RowKit

def begS (l p : List Int) : Bool := decide (p.length ≤ l.length) && decide (cmpS (l.take p.length) p = 0)
theorem begins_any (l p : List Int) (A B : Option Addr) (ca cb : Nat) (w : World) (S1 S2 : Nat → Prop) (hl : IntsR w S1 l (.slice A l.length ca)) (hp : IntsR w S2 p (.slice B p.length cb)) :
    Calls Try.prog 26 #[.slice A l.length ca, .slice B p.length cb] w fun e w' => e = .returned (.bool (begS l p)) ∧ ∃ n, w' = w.drewN n := by
  have hm := hl.lens
  have hm2 := hp.lens
  unfold maxLen at hm hm2
  by_cases h1 : p.length ≤ l.length
  · have hc1 : l.length ≤ ca := by obtain ⟨_, _, _, hq, h1, _⟩ := hl; cases hq; exact h1
    obtain ⟨A1, hsl, hcut⟩ := cut_h intE Try.underlying25 size_int A l.length ca (p.length : Int) p.length rfl h1 hc1
    have hc := hcut _ _ _ hl
    have hs := same_q (l.take p.length) p w _ _ _ _ hc hp
    have hb : begS l p = decide (cmpS (l.take p.length) p = 0) := by unfold begS; simp [h1]
    rw [hb]
    have HS := hid hs
    have i0 : decide ((p.length : Int) ≤ (l.length : Int)) = true := by rw [decide_eq_true_eq]; omega
    have i1 : p.length ≤ l.length := h1
    generalize decide (cmpS (l.take p.length) p = 0) = b at *
    clear hl hp hcut hc hs hb
    go_enter Try.func26, Try.ntmps26
    go_wp2_with fail
    refine HS.out.mono ?_
    rintro e w1 ⟨rfl, n, rfl⟩
    go_wp2_with fail
    go_ret
    exact ⟨rfl, n, rfl⟩
  · have hb : begS l p = false := by unfold begS; simp [h1]
    rw [hb]
    have i0 : decide ((p.length : Int) ≤ (l.length : Int)) = false := by rw [decide_eq_false_iff_not]; omega
    have i1 : ¬ p.length ≤ l.length := h1
    clear hl hp
    go_enter Try.func26, Try.ntmps26
    go_wp2_with fail
    go_ret
    exact ⟨rfl, 0, rfl⟩
theorem begS_iff {l p : List Int} : begS l p = true ↔ p <+: l := by
  unfold begS
  simp only [Bool.and_eq_true, decide_eq_true_eq, cmpS_zero]
  constructor
  · rintro ⟨h1, h2⟩
    exact ⟨l.drop p.length, by conv => lhs; rw [← h2]; rw [List.length_take, Nat.min_eq_left h1, List.take_append_drop]⟩
  · rintro ⟨s, rfl⟩
    simp
end Go.Proofs.Yteckkamlaibjbaa
/- vinculumlaw13.PosmapContent: the walk. Written by wip/genpcon.py. -/
set_option linter.unusedVariables false
set_option linter.unusedSimpArgs false
set_option maxRecDepth 100000
namespace Go.Proofs.Yteckkamlaibjbaa
open Go.RowKit

theorem ofDn {W w' : World} {n : Nat} (h : Below (W.drewN n).heap.size (W.drewN n) w') : Below W.heap.size W w' := ⟨h.os, h.tape, h.output, h.size, h.block⟩
set_option maxHeartbeats 16000000 in
theorem pcon_walk (t : Tree) (op : OpD) (pos : List Int) (A Ar An Ap : Option Addr) (cap cr cn cp : Nat) (w : World) (hv : TreesS w (Lt w.heap.size) t.kids (.slice A t.kids.length cap)) (hok : NodeOk t) (ho : OpIn w op Ar An cr cn) (hpos : IntsR w (Lt w.heap.size) pos (.slice Ap pos.length cp)) :
    Calls Try.prog 8 #[.agg #[.int .i64 t.kind, .string t.text, .int .i64 t.cols, .slice A t.kids.length cap], .agg (opC op (.slice Ar op.row.length cr) (.slice An op.nodes.length cn)), .slice Ap pos.length cp] w fun e w' => e = .returned (.bool true) ∧ Below w.heap.size w w' := by
  have HFEW : Hid (∀ W, Below w.heap.size w W → Calls Try.prog 10 #[.agg #[.int .i64 t.kind, .string t.text, .int .i64 t.cols, .slice A t.kids.length cap], .slice Ap pos.length cp, .slice (some ⟨W.heap.size, 0, none⟩) 1 1] (W.alloc (.cells (opC op (.slice Ar op.row.length cr) (.slice An op.nodes.length cn)) 27)) fun e w' => e = .returned (.bool (few13S t pos [op])) ∧ Below W.heap.size W w') := by
    intro W hW
    have h1 : Below w.heap.size w (W.alloc (.cells (opC op (.slice Ar op.row.length cr) (.slice An op.nodes.length cn)) 27)) := hW.trans ((blA _ _).mono hW.size)
    exact (few13_any t pos [op] A Ap _ cap cp 1 _ (hv.below h1 h1.size) (hpos.below h1 h1.size) (op_lit W op Ar An cr cn ho.kind ho.at_ ho.n ho.slot ho.old ho.text (ho.row.below hW hW.size) (ho.nodes.below hW hW.size) _)).mono fun e w' h => ⟨h.1, (blA _ _).trans (h.2.mono (by simp))⟩
  generalize hW0 : (w.alloc (Obj.cells #[.int .i64 t.kind, .string t.text, .int .i64 t.cols, .slice A t.kids.length cap] 24)).alloc (Obj.cells (opC op (.slice Ar op.row.length cr) (.slice An op.nodes.length cn)) 27) = W0
  have hz0 : W0.heap.size = w.heap.size + 1 + 1 := by rw [← hW0]; simp
  have KB : Hid (∀ W, Below W0.heap.size W0 W → Box4 W w.heap.size t.kind t.text t.cols (.slice A t.kids.length cap) ∧ OpBox W (w.heap.size + 1) op (.slice Ar op.row.length cr) (.slice An op.nodes.length cn) ∧ Below w.heap.size w W) := fun W hW => by
    have hB0 : Below w.heap.size w W0 := by rw [← hW0]; exact blAlloc (blA _ _) _
    have hbT : Box4 W0 w.heap.size t.kind t.text t.cols (.slice A t.kids.length cap) := by
      rw [← hW0]
      exact (Box4.new w _ _ _ _ _).below (blA _ _) (by simp)
    have hbP : OpBox W0 (w.heap.size + 1) op (.slice Ar op.row.length cr) (.slice An op.nodes.length cn) := by
      rw [← hW0]
      have h := OpBox.new (w.alloc (Obj.cells #[.int .i64 t.kind, .string t.text, .int .i64 t.cols, .slice A t.kids.length cap] 24)) op (.slice Ar op.row.length cr) (.slice An op.nodes.length cn) 27
      simpa using h
    exact ⟨hbT.below hW (by omega), hbP.below hW (by omega), hB0.trans (hW.mono hB0.size)⟩
  cases hf : few13S t pos [op] with
  | false =>
    rw [hf] at HFEW
    obtain ⟨tk, tx, tc, ts⟩ := t
    obtain ⟨kind, row, at_, n, nodes, slot, old, text⟩ := op
    simp only [opC, Tree.kind, Tree.text, Tree.cols, Tree.kids] at *
    clear hf ho hv hok hz0 hpos
    go_enter Try.func8, Try.ntmps8
    go_wp2_with fail
    refine (awake_any _).mono ?_
    rintro e w1 ⟨rfl, hb1⟩
    obtain ⟨⟨m0, m1, m2, m3⟩, ⟨o0, o1, o2, o3, o4, o5, o6, o7⟩, hbw⟩ := KB.out w1 hb1
    have HK1 := hid hbw
    have HT1 := hid hb1
    clear hb1 hbw
    go_wp2_with fail
    refine (HFEW.out _ HK1.out).mono ?_
    rintro e w2 ⟨rfl, hb2⟩
    have HK2 := hid (blCall HK1.out hb2)
    clear hb2
    go_wp2_with fail
    refine (awake_any _).mono ?_
    rintro e w9 ⟨rfl, hb9⟩
    have HK9 := hid (blCall HK2.out hb9)
    clear hb9
    go_wp2_with fail
    go_ret
    exact ⟨rfl, HK9.out⟩
  | true =>
  rw [hf] at HFEW
  have hsm : opSmall pos op = true ∧ pos.length ≤ 60 ∧ fewS t 300 = true := by
    unfold few13S at hf
    simp only [List.all_cons, List.all_nil, Bool.and_true, Bool.and_eq_true, decide_eq_true_eq] at hf
    exact ⟨hf.1, hf.2.2, hf.2.1.1⟩
  obtain ⟨hsm, hpl, hf3⟩ := hsm
  have hct : countS t ≤ 900000 := by
    have := few_count hf3
    omega
  have hfw : opFewS op = true := by unfold opSmall at hsm; simp only [Bool.and_eq_true] at hsm; exact hsm.1.1.1
  have hcn : countsS op.nodes ≤ 100 := by
    unfold opFewS at hfw
    simp only [Bool.and_eq_true] at hfw
    have h := few_count hfw.1
    have h2 : countS (.mk 1 ⟨#[]⟩ 0 op.nodes) = 1 + countsS op.nodes := rfl
    omega
  obtain ⟨hok', hrb, hrl, hpb⟩ := opSmall_ok hsm (Nat.le_trans (opFew_len hfw) (by omega))
  have hpb' : ∀ x ∈ pos, Bd 1152921504606846976 x := fun x hx => (hpb x hx).mono (by omega)
  have HVAL : Hid (∀ W, Below w.heap.size w W → Calls Try.prog 15 #[.agg #[.int .i64 t.kind, .string t.text, .int .i64 t.cols, .slice A t.kids.length cap], .slice Ap pos.length cp] W fun e w' => e = .returned (.bool (validS t && posIn t pos)) ∧ Below W.heap.size W w') := fun W hW => rValid_any t pos A cap _ W (hv.below hW hW.size) hok.2.2 hct (hpos.below hW hW.size)
  have HLOST : Hid (∀ W, Below w.heap.size w W → Calls Try.prog 24 #[.agg (opC op (.slice Ar op.row.length cr) (.slice An op.nodes.length cn)), .slice Ap pos.length cp] W fun e w' => e = .returned (.bool (lostS op pos)) ∧ Below W.heap.size W w') := fun W hW => lost_any op pos Ar An Ap cr cn cp W hok' (ho.row.below hW hW.size) (hpos.below hW hW.size) (by omega) hpb'
  cases hvp : (validS t && posIn t pos) with
  | false =>
    rw [hvp] at HVAL
    obtain ⟨tk, tx, tc, ts⟩ := t
    obtain ⟨kind, row, at_, n, nodes, slot, old, text⟩ := op
    simp only [opC, Tree.kind, Tree.text, Tree.cols, Tree.kids] at *
    clear hf ho hv hok hz0 hpos hsm hpl hf3 hct hfw hcn hok' hrb hrl hpb hpb' HLOST hvp
    go_enter Try.func8, Try.ntmps8
    go_wp2_with fail
    refine (awake_any _).mono ?_
    rintro e w1 ⟨rfl, hb1⟩
    obtain ⟨⟨m0, m1, m2, m3⟩, ⟨o0, o1, o2, o3, o4, o5, o6, o7⟩, hbw⟩ := KB.out w1 hb1
    have HK1 := hid hbw
    have HT1 := hid hb1
    clear hb1 hbw
    go_wp2_with fail
    refine (HFEW.out _ HK1.out).mono ?_
    rintro e w2 ⟨rfl, hb2⟩
    have HT2 := hid (HT1.out.trans (hb2.mono HT1.out.size))
    clear hb2
    clear m0 m1 m2 m3 o0 o1 o2 o3 o4 o5 o6 o7
    obtain ⟨⟨m0, m1, m2, m3⟩, ⟨o0, o1, o2, o3, o4, o5, o6, o7⟩, hbw⟩ := KB.out w2 HT2.out
    have HK2 := hid hbw
    clear hbw
    go_wp2_with fail
    refine (HVAL.out _ HK2.out).mono ?_
    rintro e w3 ⟨rfl, hb3⟩
    have HK3 := hid (blCall HK2.out hb3)
    clear hb3
    go_wp2_with fail
    refine (awake_any _).mono ?_
    rintro e w9 ⟨rfl, hb9⟩
    have HK9 := hid (blCall HK3.out hb9)
    clear hb9
    go_wp2_with fail
    go_ret
    exact ⟨rfl, HK9.out⟩
  | true =>
  rw [hvp] at HVAL
  cases hls : lostS op pos with
  | true =>
    rw [hls] at HLOST
    obtain ⟨tk, tx, tc, ts⟩ := t
    obtain ⟨kind, row, at_, n, nodes, slot, old, text⟩ := op
    simp only [opC, Tree.kind, Tree.text, Tree.cols, Tree.kids] at *
    clear hf ho hv hok hz0 hpos hsm hpl hf3 hct hfw hcn hok' hrb hrl hpb hpb' hvp hls
    go_enter Try.func8, Try.ntmps8
    go_wp2_with fail
    refine (awake_any _).mono ?_
    rintro e w1 ⟨rfl, hb1⟩
    obtain ⟨⟨m0, m1, m2, m3⟩, ⟨o0, o1, o2, o3, o4, o5, o6, o7⟩, hbw⟩ := KB.out w1 hb1
    have HK1 := hid hbw
    have HT1 := hid hb1
    clear hb1 hbw
    go_wp2_with fail
    refine (HFEW.out _ HK1.out).mono ?_
    rintro e w2 ⟨rfl, hb2⟩
    have HT2 := hid (HT1.out.trans (hb2.mono HT1.out.size))
    clear hb2
    clear m0 m1 m2 m3 o0 o1 o2 o3 o4 o5 o6 o7
    obtain ⟨⟨m0, m1, m2, m3⟩, ⟨o0, o1, o2, o3, o4, o5, o6, o7⟩, hbw⟩ := KB.out w2 HT2.out
    have HK2 := hid hbw
    clear hbw
    go_wp2_with fail
    refine (HVAL.out _ HK2.out).mono ?_
    rintro e w3 ⟨rfl, hb3⟩
    have HT3 := hid (HT2.out.trans (hb3.mono HT2.out.size))
    clear hb3
    clear m0 m1 m2 m3 o0 o1 o2 o3 o4 o5 o6 o7
    obtain ⟨⟨m0, m1, m2, m3⟩, ⟨o0, o1, o2, o3, o4, o5, o6, o7⟩, hbw⟩ := KB.out w3 HT3.out
    have HK3 := hid hbw
    clear hbw
    go_wp2_with fail
    refine (HLOST.out _ HK3.out).mono ?_
    rintro e w4 ⟨rfl, hb4⟩
    have HK4 := hid (blCall HK3.out hb4)
    clear hb4
    go_wp2_with fail
    refine (awake_any _).mono ?_
    rintro e w9 ⟨rfl, hb9⟩
    have HK9 := hid (blCall HK4.out hb9)
    clear hb9
    go_wp2_with fail
    go_ret
    exact ⟨rfl, HK9.out⟩
  | false =>
  rw [hls] at HLOST
  simp only [Bool.and_eq_true] at hvp
  obtain ⟨hvt, hpi⟩ := hvp
  obtain ⟨p, z, rfl⟩ : ∃ p z, pos = p ++ [z] := by
    rcases List.eq_nil_or_concat pos with rfl | ⟨p, z, rfl⟩
    · simp [posIn] at hpi
    · exact ⟨p, z, List.concat_eq_append⟩
  have hpl1 : (p ++ [z]).length = p.length + 1 := by simp
  have hcp1 : (p ++ [z]).length ≤ cp := by obtain ⟨_, _, _, hq, h1, _⟩ := hpos; cases hq; exact h1
  obtain ⟨A1, hsl, hcut⟩ := cut_h intE Try.underlying25 size_int Ap (p ++ [z]).length cp (p.length : Int) p.length rfl (by omega) hcp1
  have hpath := hcut _ _ _ hpos
  rw [List.take_left' rfl] at hpath
  have HPATH : Hid (∀ W, Below w.heap.size w W → IntsR W (Lt W.heap.size) p (.slice A1 p.length cp)) := fun W hW => hpath.below hW hW.size
  have HROW : Hid (∀ W, Below w.heap.size w W → IntsR W (Lt W.heap.size) op.row (.slice Ar op.row.length cr)) := fun W hW => ho.row.below hW hW.size
  have HAPP : Hid (∀ W, Below w.heap.size w W → Calls Try.prog 12 #[.agg #[.int .i64 t.kind, .string t.text, .int .i64 t.cols, .slice A t.kids.length cap], .agg (opC op (.slice Ar op.row.length cr) (.slice An op.nodes.length cn))] W (ApplyP (Lt w.heap.size) W (applyS t op))) := fun W hW =>
    apply_any t op A Ar An cap cr cn W (Lt w.heap.size) (fun q hq => Nat.lt_of_lt_of_le hq hW.size) (hv.below hW (Nat.le_refl _)) hok hct ⟨ho.at_, ho.n, ho.text, by omega⟩ (ho.row.below hW hW.size) (ho.nodes.below hW (Nat.le_refl _))
  have HMAP : Hid (∀ W, Below w.heap.size w W → Calls Try.prog 14 #[.agg (opC op (.slice Ar op.row.length cr) (.slice An op.nodes.length cn)), .slice Ap (p ++ [z]).length cp, .bool true] W (IntsPost W (mapS op (p ++ [z]) true))) := fun W hW =>
    map_any op (p ++ [z]) true Ar An Ap cr cn cp W hok' (ho.row.below hW hW.size) (hpos.below hW hW.size) (by omega) hpb'
  have HR1 : Hid (∀ W, Below w.heap.size w W → Calls Try.prog 27 #[.agg #[.int .i64 t.kind, .string t.text, .int .i64 t.cols, .slice A t.kids.length cap], .slice A1 p.length cp] W (RowP (Lt w.heap.size) W (rowRes t p).1.kind (rowRes t p).1.text (rowRes t p).1.cols (rowRes t p).1.kids (rowRes t p).2)) := fun W hW =>
    rRow_any t p A A1 cap cp W (Lt w.heap.size) (fun q hq => Nat.lt_of_lt_of_le hq hW.size) (hv.below hW (Nat.le_refl _)) hok.2.2 hct (hpath.below hW hW.size)
  have HSL : Hid (∀ x ∈ [op.at_, op.slot], In64 x) := by
    intro x hx
    simp only [List.mem_cons, List.not_mem_nil, or_false] at hx
    rcases hx with rfl | rfl
    · exact ho.at_
    · exact ho.slot
  have hz64 : In64 z := by have := hpb z (by simp); unfold Bd at this; unfold In64; omega
  have HPOS : Hid (IntsR w (Lt w.heap.size) (p ++ [z]) (.slice Ap (p ++ [z]).length cp)) := hpos
  obtain ⟨⟨m, er⟩, hap⟩ : ∃ r, applyS t op = r := ⟨_, rfl⟩
  rw [hap] at HAPP
  have hwp : IntKind.i64.wrap (((p ++ [z]).length : Int) - 1) = (p.length : Int) := by rw [hpl1, show (((p.length + 1 : Nat) : Int) - 1) = (p.length : Int) by omega]; exact IntWalk.i64_in _ (by omega)
  have HHP := hid (content_plain hap p z hpi hls)
  have HPI := hid hpi
  clear hcp1 hls
  generalize mapS op (p ++ [z]) true = MP at *
  generalize hPOS : p ++ [z] = POS at *
  have HPOZ := hid hPOS
  clear hPOS
  generalize POS.length = M at *
  have HM := hid hpl1
  clear hpl1
  have HRL := hid hrl
  rcases Decidable.em (er = 0) with he | he
  case inr =>
    have i0 : (er != 0) = true := by simpa using he
    obtain ⟨tk, tx, tc, ts⟩ := t
    obtain ⟨kind, row, at_, n, nodes, slot, old, text⟩ := op
    obtain ⟨mk, mx, mc, ms⟩ := m
    simp only [opC, Tree.kind, Tree.text, Tree.cols, Tree.kids] at *
    clear hf ho hv hok hz0 hpos hsm hpl hf3 hct hfw hcn hok' hrb hrl hpb hpb' hvt hpi hcut hpath hap he hz64 HMAP HR1 HHP
    go_enter Try.func8, Try.ntmps8
    go_wp2_with fail
    refine (awake_any _).mono ?_
    rintro e w1 ⟨rfl, hb1⟩
    obtain ⟨⟨m0, m1, m2, m3⟩, ⟨o0, o1, o2, o3, o4, o5, o6, o7⟩, hbw⟩ := KB.out w1 hb1
    have HK1 := hid hbw
    have HT1 := hid hb1
    clear hb1 hbw
    go_wp2_with fail
    refine (HFEW.out _ HK1.out).mono ?_
    rintro e w2 ⟨rfl, hb2⟩
    have HT2 := hid (HT1.out.trans (hb2.mono HT1.out.size))
    clear hb2
    clear m0 m1 m2 m3 o0 o1 o2 o3 o4 o5 o6 o7
    obtain ⟨⟨m0, m1, m2, m3⟩, ⟨o0, o1, o2, o3, o4, o5, o6, o7⟩, hbw⟩ := KB.out w2 HT2.out
    have HK2 := hid hbw
    clear hbw
    go_wp2_with fail
    refine (HVAL.out _ HK2.out).mono ?_
    rintro e w3 ⟨rfl, hb3⟩
    have HT3 := hid (HT2.out.trans (hb3.mono HT2.out.size))
    clear hb3
    clear m0 m1 m2 m3 o0 o1 o2 o3 o4 o5 o6 o7
    obtain ⟨⟨m0, m1, m2, m3⟩, ⟨o0, o1, o2, o3, o4, o5, o6, o7⟩, hbw⟩ := KB.out w3 HT3.out
    have HK3 := hid hbw
    clear hbw
    go_wp2_with fail
    refine (HLOST.out _ HK3.out).mono ?_
    rintro e w4 ⟨rfl, hb4⟩
    have HT4 := hid (HT3.out.trans (hb4.mono HT3.out.size))
    clear hb4
    clear m0 m1 m2 m3 o0 o1 o2 o3 o4 o5 o6 o7
    obtain ⟨⟨m0, m1, m2, m3⟩, ⟨o0, o1, o2, o3, o4, o5, o6, o7⟩, hbw⟩ := KB.out w4 HT4.out
    have HK4 := hid hbw
    clear hbw
    go_upto_region 4 with fail
    go_cut [8] (fun s wx => ∃ A8 l8 c8, s = .slice A8 l8 c8 ∧ IntsR wx (Lt wx.heap.size) (row ++ [at_, slot]) (.slice A8 l8 c8) ∧ Below w4.heap.size w4 wx)
    case first =>
      have hr0 := HROW.out w4 HK4.out
      have KC : Hid (∀ W, Below w4.heap.size w4 W → W.cell? ⟨w.heap.size + 1, 1, none⟩ = some (.slice Ar row.length cr) ∧ W.cell? ⟨w.heap.size + 1, 2, none⟩ = some (.int .i64 at_) ∧ W.cell? ⟨w.heap.size + 1, 5, none⟩ = some (.int .i64 slot)) := fun W h => by
        obtain ⟨_, ⟨_, h1, h2, _, _, h5, _, _⟩, _⟩ := KB.out W (HT4.out.trans (h.mono HT4.out.size))
        exact ⟨h1, h2, h5⟩
      have HE1 : Hid (∀ W', W' = w4.alloc (.cells #[] 3) → Owns W'.drew w4.heap.size [] (.slice (some ⟨w4.heap.size, 0, none⟩) 0 0) ∧ IntsR W'.drew (Lt W'.drew.heap.size) row (.slice Ar row.length cr) ∧ Below w4.heap.size w4 W'.drew) := by
        rintro W' rfl
        have hb : Below w4.heap.size w4 (w4.alloc (.cells #[] 3)).drew := (below_allocR _ _).drew
        exact ⟨owns_empty w4, hr0.below hb hb.size, hb⟩
      have HE2 : Hid (∀ W', W' = (w4.alloc (.cells #[] 3)).alloc (.cells #[.int .i64 at_, .int .i64 slot] 3) → Owns W'.drew w4.heap.size [] (.slice (some ⟨w4.heap.size, 0, none⟩) 0 0) ∧ IntsR W'.drew (Lt W'.drew.heap.size) row (.slice Ar row.length cr) ∧ Below w4.heap.size w4 W'.drew ∧ IntsR W'.drew (fun k => k = w4.heap.size + 1) [at_, slot] (.slice (some ⟨w4.heap.size + 1, 0, none⟩) 2 2) ∧ W'.drew.heap.size = w4.heap.size + 1 + 1) := by
        rintro W' rfl
        have hb1 : Below w4.heap.size w4 (w4.alloc (.cells #[] 3)) := below_allocR _ _
        have hb : Below w4.heap.size w4 ((w4.alloc (.cells #[] 3)).alloc (.cells #[.int .i64 at_, .int .i64 slot] 3)).drew := (Below.alloc hb1 hb1.size _).drew
        exact ⟨(owns_empty w4).below ((below_allocR _ _).drew), hr0.below hb hb.size, hb, ints_lit (w4.alloc (.cells #[] 3)) [at_, slot] HSL.out (S := fun k => k = w4.heap.size + 1) (by simp) _ 2 rfl rfl (by simp [maxLen]) _ _ (by simp), by simp⟩
      have HE3 : Hid (∀ W', W' = (w4.alloc (.cells #[.int .i64 at_, .int .i64 slot] 3)).alloc (.cells #[] 3) → Owns W'.drew w4.heap.size [] (.slice (some ⟨w4.heap.size + 1, 0, none⟩) 0 0) ∧ IntsR W'.drew (Lt W'.drew.heap.size) row (.slice Ar row.length cr) ∧ Below w4.heap.size w4 W'.drew ∧ IntsR W'.drew (fun k => k = w4.heap.size) [at_, slot] (.slice (some ⟨w4.heap.size, 0, none⟩) 2 2) ∧ W'.drew.heap.size = w4.heap.size + 1 + 1) := by
        rintro W' rfl
        have hb1 : Below w4.heap.size w4 (w4.alloc (.cells #[.int .i64 at_, .int .i64 slot] 3)) := below_allocR _ _
        have hb : Below w4.heap.size w4 ((w4.alloc (.cells #[.int .i64 at_, .int .i64 slot] 3)).alloc (.cells #[] 3)).drew := (Below.alloc hb1 hb1.size _).drew
        have ho := (owns_empty (w4.alloc (.cells #[.int .i64 at_, .int .i64 slot] 3))).base (b' := w4.heap.size) (by simp)
        have hsz : (w4.alloc (.cells #[.int .i64 at_, .int .i64 slot] 3)).heap.size = w4.heap.size + 1 := by simp
        rw [hsz] at ho
        exact ⟨ho, hr0.below hb hb.size, hb, (ints_lit w4 [at_, slot] HSL.out (S := fun k => k = w4.heap.size) rfl _ 2 rfl rfl (by simp [maxLen]) _ _ rfl).keep (fun p hp => (below_allocR (w4.alloc (.cells #[.int .i64 at_, .int .i64 slot] 3)) (.cells #[] 3)).cell (by rw [hp]; simp)) (fun _ h => h), by simp⟩
      clear hr0
      have hrl' := HRL.out
      go_region_held3 (fun w' => w'.cell? ⟨w.heap.size + 1, 1, none⟩ = some (.slice Ar row.length cr) ∧ w'.cell? ⟨w.heap.size + 1, 2, none⟩ = some (.int .i64 at_) ∧ w'.cell? ⟨w.heap.size + 1, 5, none⟩ = some (.int .i64 slot)) (go_keep) (first
        | (refine step_app_intsR (by rfl) (.tmp 43) (.tmp 45) (by rfl) w4.heap.size _ [] row (by rfl) (HE1.out _ rfl).1 _ _ _ _ (by rfl) (HE1.out _ rfl).2.1 (by simp; omega) (by simp) ?_; intro v1 x1 hown1 hb1 hg1; have HO1 := hid hown1; have HB1 := hid ((HE1.out _ rfl).2.2.trans hb1); obtain ⟨p1, p2, p5⟩ := KC.out x1 HB1.out; clear hown1 hb1 hg1)
        | (refine step_app_intsR (by rfl) (.tmp 43) (.tmp 45) (by rfl) w4.heap.size _ [] row (by rfl) (HE2.out _ rfl).1 _ _ _ _ (by rfl) (HE2.out _ rfl).2.1 (by simp; omega) (by simp; omega) ?_; intro v1 x1 hown1 hb1 hg1; have HL1 := hid (ints_grown (HE2.out _ rfl).2.2.2.1 hg1 (by have := (HE2.out _ rfl).2.2.2.2; omega) (by simp [Value.ownBlock])); have HO1 := hid hown1; have HB1 := hid ((HE2.out _ rfl).2.2.1.trans hb1); obtain ⟨p1, p2, p5⟩ := KC.out x1 HB1.out; clear hown1 hb1 hg1)
        | (refine step_app_intsR (by rfl) (.tmp 43) (.tmp 45) (by rfl) w4.heap.size _ [] row (by rfl) (HE3.out _ rfl).1 _ _ _ _ (by rfl) (HE3.out _ rfl).2.1 (by simp; omega) (by simp; omega) ?_; intro v1 x1 hown1 hb1 hg1; have HL1 := hid (ints_grown (HE3.out _ rfl).2.2.2.1 hg1 (by have := (HE3.out _ rfl).2.2.2.2; omega) (by simp [Value.ownBlock])); have HO1 := hid hown1; have HB1 := hid ((HE3.out _ rfl).2.2.1.trans hb1); obtain ⟨p1, p2, p5⟩ := KC.out x1 HB1.out; clear hown1 hb1 hg1)
        | (refine step_app_intsR (by rfl) (.tmp 46) (.tmp 51) (by rfl) w4.heap.size v1 ([] ++ row) [at_, slot] (by rfl) HO1.out _ _ _ _ (by rfl) HL1.out (by simp; omega) HB1.out.size ?_; intro v2 x2 hown2 hb2 _; simp only [List.nil_append] at hown2; have HO2 := hid hown2; have HB2 := hid (HB1.out.trans hb2); obtain ⟨p1, p2, p5⟩ := KC.out x2 HB2.out; clear hown2 hb2)
        | (refine step_app_intsR (by rfl) (.tmp 46) (.tmp 51) (by rfl) w4.heap.size v1 ([] ++ row) [at_, slot] (by rfl) (HO1.out.below (below_allocR _ _)) (Lt (x1.alloc (.cells #[.int .i64 at_, .int .i64 slot] 3)).heap.size) _ _ _ (by rfl) (ints_lit x1 [at_, slot] HSL.out (by unfold Lt; simp) _ 2 rfl rfl (by simp [maxLen]) _ _ rfl) (by simp; omega) (by have := HB1.out.size; simp; omega) ?_; intro v2 x2 hown2 hb2 _; simp only [List.nil_append] at hown2; have HO2 := hid hown2; have HB2 := hid (HB1.out.trans ((Below.alloc (Below.refl w4.heap.size x1) HB1.out.size _).trans hb2)); obtain ⟨p1, p2, p5⟩ := KC.out x2 HB2.out; clear hown2 hb2))
      all_goals
        go_wp2_with fail
        go_meet
        have hi2 := HO2.out.ints (S := Lt x2.heap.size) (fun _ _ h => h)
        obtain ⟨A8, c8, hv2⟩ := hi2.form
        subst hv2
        exact ⟨A8, _, c8, rfl, hi2, HB2.out⟩
    case rest =>
      obtain ⟨A8, l8, c8, rfl, hi8, hb5⟩ := hcut
      have HI8 := hid hi8
      have HT5 := hid (HT4.out.trans (hb5.mono HT4.out.size))
      clear hi8 hb5
      clear m0 m1 m2 m3 o0 o1 o2 o3 o4 o5 o6 o7
      obtain ⟨⟨m0, m1, m2, m3⟩, ⟨o0, o1, o2, o3, o4, o5, o6, o7⟩, hbw⟩ := KB.out wc HT5.out
      have HK5 := hid hbw
      clear hbw
      go_wp2_with fail
      refine (HAPP.out _ HK5.out).mono ?_
      intro e w6 h6
      obtain ⟨v6, rfl, hr6, hb6⟩ : ∃ v, e = .returned (.tuple #[.agg #[.int .i64 mk, .string mx, .int .i64 mc, v], .int .i64 er]) ∧ SliceR treeE w6 (NS (Lt w.heap.size) wc.heap.size w6) ms v ∧ Below wc.heap.size wc w6 := h6
      obtain ⟨A6, c6, rfl⟩ := hr6.form
      have HT6 := hid (HT5.out.trans (hb6.mono HT5.out.size))
      have HR6 : Hid (SliceR treeE w6 (Lt w6.heap.size) ms (.slice A6 ms.length c6)) := hr6.keep (fun _ _ => rfl) (fun q hq => by
        rcases hq with hq | hq
        · exact Nat.lt_of_lt_of_le hq (Nat.le_trans HK5.out.size hb6.size)
        · exact hq.2)
      have HI86 := hid (HI8.out.below hb6 hb6.size)
      clear hb6 hr6
      clear m0 m1 m2 m3 o0 o1 o2 o3 o4 o5 o6 o7
      go_upto_region 6 with fail
      obtain ⟨X, hX⟩ : ∃ X, w6.alloc (Obj.cells #[.int .i64 mk, .string mx, .int .i64 mc, .slice A6 ms.length c6] 24) = X := ⟨_, rfl⟩
      rw [hX]
      have hXB : Below w6.heap.size w6 X := by rw [← hX]; exact blA _ _
      have hXM : Box4 X w6.heap.size mk mx mc (.slice A6 ms.length c6) := by rw [← hX]; exact Box4.new _ _ _ _ _ _
      have hXZ : w6.heap.size < X.heap.size := by rw [← hX]; simp
      have HTX := hid (HT6.out.trans (hXB.mono HT6.out.size))
      have HRX := hid (HR6.out.below hXB hXB.size)
      have HI8X := hid (HI86.out.below hXB hXB.size)
      have KX : Hid (∀ W, Below X.heap.size X W → Box4 W w6.heap.size mk mx mc (.slice A6 ms.length c6) ∧ SliceR treeE W (Lt W.heap.size) ms (.slice A6 ms.length c6) ∧ Box4 W w.heap.size tk tx tc (.slice A ts.length cap) ∧ OpBox W (w.heap.size + 1) ⟨kind, row, at_, n, nodes, slot, old, text⟩ (.slice Ar row.length cr) (.slice An nodes.length cn) ∧ Below w.heap.size w W) := fun W hW =>
        ⟨hXM.below hW hXZ, HRX.out.below hW hW.size, KB.out W (HTX.out.trans (hW.mono HTX.out.size))⟩
      obtain ⟨_, _, _, ⟨o0, o1, o2, o3, o4, o5, o6, o7⟩, hbw⟩ := KX.out X (Below.refl _ _)
      have HKX := hid hbw
      clear hX hXB hXM hXZ hbw
      go_wp2_with fail
      go_ret
      exact ⟨rfl, HKX.out⟩
  subst he
  have HBE : Hid (∀ W, Below w.heap.size w W → Calls Try.prog 26 #[.slice Ar op.row.length cr, .slice A1 p.length cp] W fun e w' => e = .returned (.bool (begS op.row p)) ∧ ∃ n, w' = W.drewN n) := fun W hW => begins_any op.row p Ar A1 cr cp W _ _ (HROW.out W hW) (HPATH.out W hW)
  cases hbg : begS op.row p with
  | true =>
    rw [hbg] at HBE
    obtain ⟨tk, tx, tc, ts⟩ := t
    obtain ⟨kind, row, at_, n, nodes, slot, old, text⟩ := op
    obtain ⟨mk, mx, mc, ms⟩ := m
    simp only [opC, Tree.kind, Tree.text, Tree.cols, Tree.kids] at *
    clear hf ho hv hok hz0 hpos hsm hpl hf3 hct hfw hcn hok' hrb hrl hpb hpb' hvt hpi hcut hpath hap hz64 HMAP HR1 HHP hbg
    go_enter Try.func8, Try.ntmps8
    go_wp2_with fail
    refine (awake_any _).mono ?_
    rintro e w1 ⟨rfl, hb1⟩
    obtain ⟨⟨m0, m1, m2, m3⟩, ⟨o0, o1, o2, o3, o4, o5, o6, o7⟩, hbw⟩ := KB.out w1 hb1
    have HK1 := hid hbw
    have HT1 := hid hb1
    clear hb1 hbw
    go_wp2_with fail
    refine (HFEW.out _ HK1.out).mono ?_
    rintro e w2 ⟨rfl, hb2⟩
    have HT2 := hid (HT1.out.trans (hb2.mono HT1.out.size))
    clear hb2
    clear m0 m1 m2 m3 o0 o1 o2 o3 o4 o5 o6 o7
    obtain ⟨⟨m0, m1, m2, m3⟩, ⟨o0, o1, o2, o3, o4, o5, o6, o7⟩, hbw⟩ := KB.out w2 HT2.out
    have HK2 := hid hbw
    clear hbw
    go_wp2_with fail
    refine (HVAL.out _ HK2.out).mono ?_
    rintro e w3 ⟨rfl, hb3⟩
    have HT3 := hid (HT2.out.trans (hb3.mono HT2.out.size))
    clear hb3
    clear m0 m1 m2 m3 o0 o1 o2 o3 o4 o5 o6 o7
    obtain ⟨⟨m0, m1, m2, m3⟩, ⟨o0, o1, o2, o3, o4, o5, o6, o7⟩, hbw⟩ := KB.out w3 HT3.out
    have HK3 := hid hbw
    clear hbw
    go_wp2_with fail
    refine (HLOST.out _ HK3.out).mono ?_
    rintro e w4 ⟨rfl, hb4⟩
    have HT4 := hid (HT3.out.trans (hb4.mono HT3.out.size))
    clear hb4
    clear m0 m1 m2 m3 o0 o1 o2 o3 o4 o5 o6 o7
    obtain ⟨⟨m0, m1, m2, m3⟩, ⟨o0, o1, o2, o3, o4, o5, o6, o7⟩, hbw⟩ := KB.out w4 HT4.out
    have HK4 := hid hbw
    clear hbw
    go_upto_region 4 with fail
    go_cut [8] (fun s wx => ∃ A8 l8 c8, s = .slice A8 l8 c8 ∧ IntsR wx (Lt wx.heap.size) (row ++ [at_, slot]) (.slice A8 l8 c8) ∧ Below w4.heap.size w4 wx)
    case first =>
      have hr0 := HROW.out w4 HK4.out
      have KC : Hid (∀ W, Below w4.heap.size w4 W → W.cell? ⟨w.heap.size + 1, 1, none⟩ = some (.slice Ar row.length cr) ∧ W.cell? ⟨w.heap.size + 1, 2, none⟩ = some (.int .i64 at_) ∧ W.cell? ⟨w.heap.size + 1, 5, none⟩ = some (.int .i64 slot)) := fun W h => by
        obtain ⟨_, ⟨_, h1, h2, _, _, h5, _, _⟩, _⟩ := KB.out W (HT4.out.trans (h.mono HT4.out.size))
        exact ⟨h1, h2, h5⟩
      have HE1 : Hid (∀ W', W' = w4.alloc (.cells #[] 3) → Owns W'.drew w4.heap.size [] (.slice (some ⟨w4.heap.size, 0, none⟩) 0 0) ∧ IntsR W'.drew (Lt W'.drew.heap.size) row (.slice Ar row.length cr) ∧ Below w4.heap.size w4 W'.drew) := by
        rintro W' rfl
        have hb : Below w4.heap.size w4 (w4.alloc (.cells #[] 3)).drew := (below_allocR _ _).drew
        exact ⟨owns_empty w4, hr0.below hb hb.size, hb⟩
      have HE2 : Hid (∀ W', W' = (w4.alloc (.cells #[] 3)).alloc (.cells #[.int .i64 at_, .int .i64 slot] 3) → Owns W'.drew w4.heap.size [] (.slice (some ⟨w4.heap.size, 0, none⟩) 0 0) ∧ IntsR W'.drew (Lt W'.drew.heap.size) row (.slice Ar row.length cr) ∧ Below w4.heap.size w4 W'.drew ∧ IntsR W'.drew (fun k => k = w4.heap.size + 1) [at_, slot] (.slice (some ⟨w4.heap.size + 1, 0, none⟩) 2 2) ∧ W'.drew.heap.size = w4.heap.size + 1 + 1) := by
        rintro W' rfl
        have hb1 : Below w4.heap.size w4 (w4.alloc (.cells #[] 3)) := below_allocR _ _
        have hb : Below w4.heap.size w4 ((w4.alloc (.cells #[] 3)).alloc (.cells #[.int .i64 at_, .int .i64 slot] 3)).drew := (Below.alloc hb1 hb1.size _).drew
        exact ⟨(owns_empty w4).below ((below_allocR _ _).drew), hr0.below hb hb.size, hb, ints_lit (w4.alloc (.cells #[] 3)) [at_, slot] HSL.out (S := fun k => k = w4.heap.size + 1) (by simp) _ 2 rfl rfl (by simp [maxLen]) _ _ (by simp), by simp⟩
      have HE3 : Hid (∀ W', W' = (w4.alloc (.cells #[.int .i64 at_, .int .i64 slot] 3)).alloc (.cells #[] 3) → Owns W'.drew w4.heap.size [] (.slice (some ⟨w4.heap.size + 1, 0, none⟩) 0 0) ∧ IntsR W'.drew (Lt W'.drew.heap.size) row (.slice Ar row.length cr) ∧ Below w4.heap.size w4 W'.drew ∧ IntsR W'.drew (fun k => k = w4.heap.size) [at_, slot] (.slice (some ⟨w4.heap.size, 0, none⟩) 2 2) ∧ W'.drew.heap.size = w4.heap.size + 1 + 1) := by
        rintro W' rfl
        have hb1 : Below w4.heap.size w4 (w4.alloc (.cells #[.int .i64 at_, .int .i64 slot] 3)) := below_allocR _ _
        have hb : Below w4.heap.size w4 ((w4.alloc (.cells #[.int .i64 at_, .int .i64 slot] 3)).alloc (.cells #[] 3)).drew := (Below.alloc hb1 hb1.size _).drew
        have ho := (owns_empty (w4.alloc (.cells #[.int .i64 at_, .int .i64 slot] 3))).base (b' := w4.heap.size) (by simp)
        have hsz : (w4.alloc (.cells #[.int .i64 at_, .int .i64 slot] 3)).heap.size = w4.heap.size + 1 := by simp
        rw [hsz] at ho
        exact ⟨ho, hr0.below hb hb.size, hb, (ints_lit w4 [at_, slot] HSL.out (S := fun k => k = w4.heap.size) rfl _ 2 rfl rfl (by simp [maxLen]) _ _ rfl).keep (fun p hp => (below_allocR (w4.alloc (.cells #[.int .i64 at_, .int .i64 slot] 3)) (.cells #[] 3)).cell (by rw [hp]; simp)) (fun _ h => h), by simp⟩
      clear hr0
      have hrl' := HRL.out
      go_region_held3 (fun w' => w'.cell? ⟨w.heap.size + 1, 1, none⟩ = some (.slice Ar row.length cr) ∧ w'.cell? ⟨w.heap.size + 1, 2, none⟩ = some (.int .i64 at_) ∧ w'.cell? ⟨w.heap.size + 1, 5, none⟩ = some (.int .i64 slot)) (go_keep) (first
        | (refine step_app_intsR (by rfl) (.tmp 43) (.tmp 45) (by rfl) w4.heap.size _ [] row (by rfl) (HE1.out _ rfl).1 _ _ _ _ (by rfl) (HE1.out _ rfl).2.1 (by simp; omega) (by simp) ?_; intro v1 x1 hown1 hb1 hg1; have HO1 := hid hown1; have HB1 := hid ((HE1.out _ rfl).2.2.trans hb1); obtain ⟨p1, p2, p5⟩ := KC.out x1 HB1.out; clear hown1 hb1 hg1)
        | (refine step_app_intsR (by rfl) (.tmp 43) (.tmp 45) (by rfl) w4.heap.size _ [] row (by rfl) (HE2.out _ rfl).1 _ _ _ _ (by rfl) (HE2.out _ rfl).2.1 (by simp; omega) (by simp; omega) ?_; intro v1 x1 hown1 hb1 hg1; have HL1 := hid (ints_grown (HE2.out _ rfl).2.2.2.1 hg1 (by have := (HE2.out _ rfl).2.2.2.2; omega) (by simp [Value.ownBlock])); have HO1 := hid hown1; have HB1 := hid ((HE2.out _ rfl).2.2.1.trans hb1); obtain ⟨p1, p2, p5⟩ := KC.out x1 HB1.out; clear hown1 hb1 hg1)
        | (refine step_app_intsR (by rfl) (.tmp 43) (.tmp 45) (by rfl) w4.heap.size _ [] row (by rfl) (HE3.out _ rfl).1 _ _ _ _ (by rfl) (HE3.out _ rfl).2.1 (by simp; omega) (by simp; omega) ?_; intro v1 x1 hown1 hb1 hg1; have HL1 := hid (ints_grown (HE3.out _ rfl).2.2.2.1 hg1 (by have := (HE3.out _ rfl).2.2.2.2; omega) (by simp [Value.ownBlock])); have HO1 := hid hown1; have HB1 := hid ((HE3.out _ rfl).2.2.1.trans hb1); obtain ⟨p1, p2, p5⟩ := KC.out x1 HB1.out; clear hown1 hb1 hg1)
        | (refine step_app_intsR (by rfl) (.tmp 46) (.tmp 51) (by rfl) w4.heap.size v1 ([] ++ row) [at_, slot] (by rfl) HO1.out _ _ _ _ (by rfl) HL1.out (by simp; omega) HB1.out.size ?_; intro v2 x2 hown2 hb2 _; simp only [List.nil_append] at hown2; have HO2 := hid hown2; have HB2 := hid (HB1.out.trans hb2); obtain ⟨p1, p2, p5⟩ := KC.out x2 HB2.out; clear hown2 hb2)
        | (refine step_app_intsR (by rfl) (.tmp 46) (.tmp 51) (by rfl) w4.heap.size v1 ([] ++ row) [at_, slot] (by rfl) (HO1.out.below (below_allocR _ _)) (Lt (x1.alloc (.cells #[.int .i64 at_, .int .i64 slot] 3)).heap.size) _ _ _ (by rfl) (ints_lit x1 [at_, slot] HSL.out (by unfold Lt; simp) _ 2 rfl rfl (by simp [maxLen]) _ _ rfl) (by simp; omega) (by have := HB1.out.size; simp; omega) ?_; intro v2 x2 hown2 hb2 _; simp only [List.nil_append] at hown2; have HO2 := hid hown2; have HB2 := hid (HB1.out.trans ((Below.alloc (Below.refl w4.heap.size x1) HB1.out.size _).trans hb2)); obtain ⟨p1, p2, p5⟩ := KC.out x2 HB2.out; clear hown2 hb2))
      all_goals
        go_wp2_with fail
        go_meet
        have hi2 := HO2.out.ints (S := Lt x2.heap.size) (fun _ _ h => h)
        obtain ⟨A8, c8, hv2⟩ := hi2.form
        subst hv2
        exact ⟨A8, _, c8, rfl, hi2, HB2.out⟩
    case rest =>
      obtain ⟨A8, l8, c8, rfl, hi8, hb5⟩ := hcut
      have HI8 := hid hi8
      have HT5 := hid (HT4.out.trans (hb5.mono HT4.out.size))
      clear hi8 hb5
      clear m0 m1 m2 m3 o0 o1 o2 o3 o4 o5 o6 o7
      obtain ⟨⟨m0, m1, m2, m3⟩, ⟨o0, o1, o2, o3, o4, o5, o6, o7⟩, hbw⟩ := KB.out wc HT5.out
      have HK5 := hid hbw
      clear hbw
      go_wp2_with fail
      refine (HAPP.out _ HK5.out).mono ?_
      intro e w6 h6
      obtain ⟨v6, rfl, hr6, hb6⟩ : ∃ v, e = .returned (.tuple #[.agg #[.int .i64 mk, .string mx, .int .i64 mc, v], .int .i64 0]) ∧ SliceR treeE w6 (NS (Lt w.heap.size) wc.heap.size w6) ms v ∧ Below wc.heap.size wc w6 := h6
      obtain ⟨A6, c6, rfl⟩ := hr6.form
      have HT6 := hid (HT5.out.trans (hb6.mono HT5.out.size))
      have HR6 : Hid (SliceR treeE w6 (Lt w6.heap.size) ms (.slice A6 ms.length c6)) := hr6.keep (fun _ _ => rfl) (fun q hq => by
        rcases hq with hq | hq
        · exact Nat.lt_of_lt_of_le hq (Nat.le_trans HK5.out.size hb6.size)
        · exact hq.2)
      have HI86 := hid (HI8.out.below hb6 hb6.size)
      clear hb6 hr6
      clear m0 m1 m2 m3 o0 o1 o2 o3 o4 o5 o6 o7
      go_upto_region 6 with fail
      obtain ⟨X, hX⟩ : ∃ X, w6.alloc (Obj.cells #[.int .i64 mk, .string mx, .int .i64 mc, .slice A6 ms.length c6] 24) = X := ⟨_, rfl⟩
      rw [hX]
      have hXB : Below w6.heap.size w6 X := by rw [← hX]; exact blA _ _
      have hXM : Box4 X w6.heap.size mk mx mc (.slice A6 ms.length c6) := by rw [← hX]; exact Box4.new _ _ _ _ _ _
      have hXZ : w6.heap.size < X.heap.size := by rw [← hX]; simp
      have HTX := hid (HT6.out.trans (hXB.mono HT6.out.size))
      have HRX := hid (HR6.out.below hXB hXB.size)
      have HI8X := hid (HI86.out.below hXB hXB.size)
      have KX : Hid (∀ W, Below X.heap.size X W → Box4 W w6.heap.size mk mx mc (.slice A6 ms.length c6) ∧ SliceR treeE W (Lt W.heap.size) ms (.slice A6 ms.length c6) ∧ Box4 W w.heap.size tk tx tc (.slice A ts.length cap) ∧ OpBox W (w.heap.size + 1) ⟨kind, row, at_, n, nodes, slot, old, text⟩ (.slice Ar row.length cr) (.slice An nodes.length cn) ∧ Below w.heap.size w W) := fun W hW =>
        ⟨hXM.below hW hXZ, HRX.out.below hW hW.size, KB.out W (HTX.out.trans (hW.mono HTX.out.size))⟩
      obtain ⟨_, _, _, ⟨o0, o1, o2, o3, o4, o5, o6, o7⟩, hbw⟩ := KX.out X (Below.refl _ _)
      have HKX := hid hbw
      clear hX hXB hXM hXZ hbw
      go_wp2_with fail
      refine (HBE.out _ HKX.out).mono ?_
      rintro e w7 ⟨rfl, n7, rfl⟩
      go_wp2_with fail
      go_ret
      exact ⟨rfl, bl_dnC HKX.out⟩
  | false =>
  rw [hbg] at HBE
  have hnb : ¬ p <+: op.row := fun hc => by rw [begS_iff.2 hc] at hbg; cases hbg
  have hap' := apply_ok hap
  have hvm := hap'.2.1
  have hcm := (valid_count hvm).1
  have hmx : m.text.size ≤ maxLen := by
    obtain ⟨_, _, _, _, l', a, rfl, _⟩ := hap'
    exact (putS_ok t op.row l' hok).2.2
  have HR2 : Hid (∀ (q : List Int) W (Sx : Nat → Prop) A' c' Aq cq, (∀ y, Sx y → y < W.heap.size) → SliceR treeE W Sx m.kids (.slice A' m.kids.length c') → IntsR W (Lt W.heap.size) q (.slice Aq q.length cq) → Calls Try.prog 27 #[.agg #[.int .i64 m.kind, .string m.text, .int .i64 m.cols, .slice A' m.kids.length c'], .slice Aq q.length cq] W (RowP Sx W (rowRes m q).1.kind (rowRes m q).1.text (rowRes m q).1.cols (rowRes m q).1.kids (rowRes m q).2)) := fun q W Sx A' c' Aq cq hs hm hq =>
    rRow_any m q A' Aq c' cq W Sx hs hm hmx (by omega) hq
  have HSM : Hid (∀ W v, IntsR W (Lt W.heap.size) (op.row ++ [op.at_, op.slot]) v → Below w.heap.size w W → Calls Try.prog 19 #[.slice A1 p.length cp, v] W fun e w' => e = .returned (.bool (decide (cmpS p (op.row ++ [op.at_, op.slot]) = 0))) ∧ ∃ n, w' = W.drewN n) := fun W v hv hW => same_q p (op.row ++ [op.at_, op.slot]) W _ v _ _ (HPATH.out W hW) hv
  have hsame : decide (cmpS p (op.row ++ [op.at_, op.slot]) = 0) = decide (p = op.row ++ [op.at_, op.slot]) := by rw [Bool.eq_iff_iff]; simp [cmpS_zero]
  rw [hsame] at HSM
  have HRF : Hid (∀ q, (findS t p).2 = true → findS m q = findS t p → (rowRes t p) = ((findS t p).1, 0) ∧ (rowRes m q) = ((findS t p).1, 0)) := fun q h1 h2 => by
    constructor
    · unfold rowRes; rw [if_neg (by simp [hvt]), if_neg (by simp [h1])]
    · unfold rowRes; rw [if_neg (by simp [hvm]), h2, if_neg (by simp [h1])]
  by_cases hk4 : op.kind = 4
  · cases hsm4 : decide (p = op.row ++ [op.at_, op.slot]) with
    | true =>
      rw [hsm4] at HSM
      have hk4' : op.kind = 4 := hk4
      obtain ⟨tk, tx, tc, ts⟩ := t
      obtain ⟨kind, row, at_, n, nodes, slot, old, text⟩ := op
      obtain ⟨mk, mx, mc, ms⟩ := m
      simp only [opC, Tree.kind, Tree.text, Tree.cols, Tree.kids] at *
      subst hk4
      clear hf ho hv hok hz0 hpos hsm hpl hf3 hct hfw hcn hok' hrb hrl hpb hpb' hvt hpi hcut hpath hap hap' hz64 hvm hcm hmx hsame hbg hnb hk4' hsm4 HMAP HR1 HR2 HHP HRF
      go_enter Try.func8, Try.ntmps8
      go_wp2_with fail
      refine (awake_any _).mono ?_
      rintro e w1 ⟨rfl, hb1⟩
      obtain ⟨⟨m0, m1, m2, m3⟩, ⟨o0, o1, o2, o3, o4, o5, o6, o7⟩, hbw⟩ := KB.out w1 hb1
      have HK1 := hid hbw
      have HT1 := hid hb1
      clear hb1 hbw
      go_wp2_with fail
      refine (HFEW.out _ HK1.out).mono ?_
      rintro e w2 ⟨rfl, hb2⟩
      have HT2 := hid (HT1.out.trans (hb2.mono HT1.out.size))
      clear hb2
      clear m0 m1 m2 m3 o0 o1 o2 o3 o4 o5 o6 o7
      obtain ⟨⟨m0, m1, m2, m3⟩, ⟨o0, o1, o2, o3, o4, o5, o6, o7⟩, hbw⟩ := KB.out w2 HT2.out
      have HK2 := hid hbw
      clear hbw
      go_wp2_with fail
      refine (HVAL.out _ HK2.out).mono ?_
      rintro e w3 ⟨rfl, hb3⟩
      have HT3 := hid (HT2.out.trans (hb3.mono HT2.out.size))
      clear hb3
      clear m0 m1 m2 m3 o0 o1 o2 o3 o4 o5 o6 o7
      obtain ⟨⟨m0, m1, m2, m3⟩, ⟨o0, o1, o2, o3, o4, o5, o6, o7⟩, hbw⟩ := KB.out w3 HT3.out
      have HK3 := hid hbw
      clear hbw
      go_wp2_with fail
      refine (HLOST.out _ HK3.out).mono ?_
      rintro e w4 ⟨rfl, hb4⟩
      have HT4 := hid (HT3.out.trans (hb4.mono HT3.out.size))
      clear hb4
      clear m0 m1 m2 m3 o0 o1 o2 o3 o4 o5 o6 o7
      obtain ⟨⟨m0, m1, m2, m3⟩, ⟨o0, o1, o2, o3, o4, o5, o6, o7⟩, hbw⟩ := KB.out w4 HT4.out
      have HK4 := hid hbw
      clear hbw
      go_upto_region 4 with fail
      go_cut [8] (fun s wx => ∃ A8 l8 c8, s = .slice A8 l8 c8 ∧ IntsR wx (Lt wx.heap.size) (row ++ [at_, slot]) (.slice A8 l8 c8) ∧ Below w4.heap.size w4 wx)
      case first =>
        have hr0 := HROW.out w4 HK4.out
        have KC : Hid (∀ W, Below w4.heap.size w4 W → W.cell? ⟨w.heap.size + 1, 1, none⟩ = some (.slice Ar row.length cr) ∧ W.cell? ⟨w.heap.size + 1, 2, none⟩ = some (.int .i64 at_) ∧ W.cell? ⟨w.heap.size + 1, 5, none⟩ = some (.int .i64 slot)) := fun W h => by
          obtain ⟨_, ⟨_, h1, h2, _, _, h5, _, _⟩, _⟩ := KB.out W (HT4.out.trans (h.mono HT4.out.size))
          exact ⟨h1, h2, h5⟩
        have HE1 : Hid (∀ W', W' = w4.alloc (.cells #[] 3) → Owns W'.drew w4.heap.size [] (.slice (some ⟨w4.heap.size, 0, none⟩) 0 0) ∧ IntsR W'.drew (Lt W'.drew.heap.size) row (.slice Ar row.length cr) ∧ Below w4.heap.size w4 W'.drew) := by
          rintro W' rfl
          have hb : Below w4.heap.size w4 (w4.alloc (.cells #[] 3)).drew := (below_allocR _ _).drew
          exact ⟨owns_empty w4, hr0.below hb hb.size, hb⟩
        have HE2 : Hid (∀ W', W' = (w4.alloc (.cells #[] 3)).alloc (.cells #[.int .i64 at_, .int .i64 slot] 3) → Owns W'.drew w4.heap.size [] (.slice (some ⟨w4.heap.size, 0, none⟩) 0 0) ∧ IntsR W'.drew (Lt W'.drew.heap.size) row (.slice Ar row.length cr) ∧ Below w4.heap.size w4 W'.drew ∧ IntsR W'.drew (fun k => k = w4.heap.size + 1) [at_, slot] (.slice (some ⟨w4.heap.size + 1, 0, none⟩) 2 2) ∧ W'.drew.heap.size = w4.heap.size + 1 + 1) := by
          rintro W' rfl
          have hb1 : Below w4.heap.size w4 (w4.alloc (.cells #[] 3)) := below_allocR _ _
          have hb : Below w4.heap.size w4 ((w4.alloc (.cells #[] 3)).alloc (.cells #[.int .i64 at_, .int .i64 slot] 3)).drew := (Below.alloc hb1 hb1.size _).drew
          exact ⟨(owns_empty w4).below ((below_allocR _ _).drew), hr0.below hb hb.size, hb, ints_lit (w4.alloc (.cells #[] 3)) [at_, slot] HSL.out (S := fun k => k = w4.heap.size + 1) (by simp) _ 2 rfl rfl (by simp [maxLen]) _ _ (by simp), by simp⟩
        have HE3 : Hid (∀ W', W' = (w4.alloc (.cells #[.int .i64 at_, .int .i64 slot] 3)).alloc (.cells #[] 3) → Owns W'.drew w4.heap.size [] (.slice (some ⟨w4.heap.size + 1, 0, none⟩) 0 0) ∧ IntsR W'.drew (Lt W'.drew.heap.size) row (.slice Ar row.length cr) ∧ Below w4.heap.size w4 W'.drew ∧ IntsR W'.drew (fun k => k = w4.heap.size) [at_, slot] (.slice (some ⟨w4.heap.size, 0, none⟩) 2 2) ∧ W'.drew.heap.size = w4.heap.size + 1 + 1) := by
          rintro W' rfl
          have hb1 : Below w4.heap.size w4 (w4.alloc (.cells #[.int .i64 at_, .int .i64 slot] 3)) := below_allocR _ _
          have hb : Below w4.heap.size w4 ((w4.alloc (.cells #[.int .i64 at_, .int .i64 slot] 3)).alloc (.cells #[] 3)).drew := (Below.alloc hb1 hb1.size _).drew
          have ho := (owns_empty (w4.alloc (.cells #[.int .i64 at_, .int .i64 slot] 3))).base (b' := w4.heap.size) (by simp)
          have hsz : (w4.alloc (.cells #[.int .i64 at_, .int .i64 slot] 3)).heap.size = w4.heap.size + 1 := by simp
          rw [hsz] at ho
          exact ⟨ho, hr0.below hb hb.size, hb, (ints_lit w4 [at_, slot] HSL.out (S := fun k => k = w4.heap.size) rfl _ 2 rfl rfl (by simp [maxLen]) _ _ rfl).keep (fun p hp => (below_allocR (w4.alloc (.cells #[.int .i64 at_, .int .i64 slot] 3)) (.cells #[] 3)).cell (by rw [hp]; simp)) (fun _ h => h), by simp⟩
        clear hr0
        have hrl' := HRL.out
        go_region_held3 (fun w' => w'.cell? ⟨w.heap.size + 1, 1, none⟩ = some (.slice Ar row.length cr) ∧ w'.cell? ⟨w.heap.size + 1, 2, none⟩ = some (.int .i64 at_) ∧ w'.cell? ⟨w.heap.size + 1, 5, none⟩ = some (.int .i64 slot)) (go_keep) (first
          | (refine step_app_intsR (by rfl) (.tmp 43) (.tmp 45) (by rfl) w4.heap.size _ [] row (by rfl) (HE1.out _ rfl).1 _ _ _ _ (by rfl) (HE1.out _ rfl).2.1 (by simp; omega) (by simp) ?_; intro v1 x1 hown1 hb1 hg1; have HO1 := hid hown1; have HB1 := hid ((HE1.out _ rfl).2.2.trans hb1); obtain ⟨p1, p2, p5⟩ := KC.out x1 HB1.out; clear hown1 hb1 hg1)
          | (refine step_app_intsR (by rfl) (.tmp 43) (.tmp 45) (by rfl) w4.heap.size _ [] row (by rfl) (HE2.out _ rfl).1 _ _ _ _ (by rfl) (HE2.out _ rfl).2.1 (by simp; omega) (by simp; omega) ?_; intro v1 x1 hown1 hb1 hg1; have HL1 := hid (ints_grown (HE2.out _ rfl).2.2.2.1 hg1 (by have := (HE2.out _ rfl).2.2.2.2; omega) (by simp [Value.ownBlock])); have HO1 := hid hown1; have HB1 := hid ((HE2.out _ rfl).2.2.1.trans hb1); obtain ⟨p1, p2, p5⟩ := KC.out x1 HB1.out; clear hown1 hb1 hg1)
          | (refine step_app_intsR (by rfl) (.tmp 43) (.tmp 45) (by rfl) w4.heap.size _ [] row (by rfl) (HE3.out _ rfl).1 _ _ _ _ (by rfl) (HE3.out _ rfl).2.1 (by simp; omega) (by simp; omega) ?_; intro v1 x1 hown1 hb1 hg1; have HL1 := hid (ints_grown (HE3.out _ rfl).2.2.2.1 hg1 (by have := (HE3.out _ rfl).2.2.2.2; omega) (by simp [Value.ownBlock])); have HO1 := hid hown1; have HB1 := hid ((HE3.out _ rfl).2.2.1.trans hb1); obtain ⟨p1, p2, p5⟩ := KC.out x1 HB1.out; clear hown1 hb1 hg1)
          | (refine step_app_intsR (by rfl) (.tmp 46) (.tmp 51) (by rfl) w4.heap.size v1 ([] ++ row) [at_, slot] (by rfl) HO1.out _ _ _ _ (by rfl) HL1.out (by simp; omega) HB1.out.size ?_; intro v2 x2 hown2 hb2 _; simp only [List.nil_append] at hown2; have HO2 := hid hown2; have HB2 := hid (HB1.out.trans hb2); obtain ⟨p1, p2, p5⟩ := KC.out x2 HB2.out; clear hown2 hb2)
          | (refine step_app_intsR (by rfl) (.tmp 46) (.tmp 51) (by rfl) w4.heap.size v1 ([] ++ row) [at_, slot] (by rfl) (HO1.out.below (below_allocR _ _)) (Lt (x1.alloc (.cells #[.int .i64 at_, .int .i64 slot] 3)).heap.size) _ _ _ (by rfl) (ints_lit x1 [at_, slot] HSL.out (by unfold Lt; simp) _ 2 rfl rfl (by simp [maxLen]) _ _ rfl) (by simp; omega) (by have := HB1.out.size; simp; omega) ?_; intro v2 x2 hown2 hb2 _; simp only [List.nil_append] at hown2; have HO2 := hid hown2; have HB2 := hid (HB1.out.trans ((Below.alloc (Below.refl w4.heap.size x1) HB1.out.size _).trans hb2)); obtain ⟨p1, p2, p5⟩ := KC.out x2 HB2.out; clear hown2 hb2))
        all_goals
          go_wp2_with fail
          go_meet
          have hi2 := HO2.out.ints (S := Lt x2.heap.size) (fun _ _ h => h)
          obtain ⟨A8, c8, hv2⟩ := hi2.form
          subst hv2
          exact ⟨A8, _, c8, rfl, hi2, HB2.out⟩
      case rest =>
        obtain ⟨A8, l8, c8, rfl, hi8, hb5⟩ := hcut
        have HI8 := hid hi8
        have HT5 := hid (HT4.out.trans (hb5.mono HT4.out.size))
        clear hi8 hb5
        clear m0 m1 m2 m3 o0 o1 o2 o3 o4 o5 o6 o7
        obtain ⟨⟨m0, m1, m2, m3⟩, ⟨o0, o1, o2, o3, o4, o5, o6, o7⟩, hbw⟩ := KB.out wc HT5.out
        have HK5 := hid hbw
        clear hbw
        go_wp2_with fail
        refine (HAPP.out _ HK5.out).mono ?_
        intro e w6 h6
        obtain ⟨v6, rfl, hr6, hb6⟩ : ∃ v, e = .returned (.tuple #[.agg #[.int .i64 mk, .string mx, .int .i64 mc, v], .int .i64 0]) ∧ SliceR treeE w6 (NS (Lt w.heap.size) wc.heap.size w6) ms v ∧ Below wc.heap.size wc w6 := h6
        obtain ⟨A6, c6, rfl⟩ := hr6.form
        have HT6 := hid (HT5.out.trans (hb6.mono HT5.out.size))
        have HR6 : Hid (SliceR treeE w6 (Lt w6.heap.size) ms (.slice A6 ms.length c6)) := hr6.keep (fun _ _ => rfl) (fun q hq => by
          rcases hq with hq | hq
          · exact Nat.lt_of_lt_of_le hq (Nat.le_trans HK5.out.size hb6.size)
          · exact hq.2)
        have HI86 := hid (HI8.out.below hb6 hb6.size)
        clear hb6 hr6
        clear m0 m1 m2 m3 o0 o1 o2 o3 o4 o5 o6 o7
        go_upto_region 6 with fail
        obtain ⟨X, hX⟩ : ∃ X, w6.alloc (Obj.cells #[.int .i64 mk, .string mx, .int .i64 mc, .slice A6 ms.length c6] 24) = X := ⟨_, rfl⟩
        rw [hX]
        have hXB : Below w6.heap.size w6 X := by rw [← hX]; exact blA _ _
        have hXM : Box4 X w6.heap.size mk mx mc (.slice A6 ms.length c6) := by rw [← hX]; exact Box4.new _ _ _ _ _ _
        have hXZ : w6.heap.size < X.heap.size := by rw [← hX]; simp
        have HTX := hid (HT6.out.trans (hXB.mono HT6.out.size))
        have HRX := hid (HR6.out.below hXB hXB.size)
        have HI8X := hid (HI86.out.below hXB hXB.size)
        have KX : Hid (∀ W, Below X.heap.size X W → Box4 W w6.heap.size mk mx mc (.slice A6 ms.length c6) ∧ SliceR treeE W (Lt W.heap.size) ms (.slice A6 ms.length c6) ∧ Box4 W w.heap.size tk tx tc (.slice A ts.length cap) ∧ OpBox W (w.heap.size + 1) ⟨4, row, at_, n, nodes, slot, old, text⟩ (.slice Ar row.length cr) (.slice An nodes.length cn) ∧ Below w.heap.size w W) := fun W hW =>
          ⟨hXM.below hW hXZ, HRX.out.below hW hW.size, KB.out W (HTX.out.trans (hW.mono HTX.out.size))⟩
        obtain ⟨_, _, _, ⟨o0, o1, o2, o3, o4, o5, o6, o7⟩, hbw⟩ := KX.out X (Below.refl _ _)
        have HKX := hid hbw
        clear hX hXB hXM hXZ hbw
        go_wp2_with fail
        refine (HBE.out _ HKX.out).mono ?_
        rintro e w7 ⟨rfl, n7, rfl⟩
        obtain ⟨_, _, _, ⟨o0, o1, o2, o3, o4, o5, o6, o7⟩, _⟩ := KX.out (X.drewN n7) (bl_dnC (Below.refl _ _))
        go_wp2_with fail
        refine (HSM.out (X.drewN n7) _ (HI8X.out.keep (fun _ _ => rfl) (fun _ h => h)) (bl_dnC HKX.out)).mono ?_
        rintro e w8 ⟨rfl, n8, rfl⟩
        go_wp2_with fail
        go_ret
        exact ⟨rfl, bl_dnC HKX.out⟩
    | false =>
      rw [hsm4] at HSM
      have HNOT : ¬ (op.kind = 4 ∧ p = op.row ++ [op.at_, op.slot]) := fun h => by simp [← h.2] at hsm4
      have hct2 : ¬ (op.kind = 4 ∧ p = op.row ++ [op.at_, op.slot]) := HNOT
      obtain ⟨q, hq1, hq2, hq3⟩ := HHP.out rfl hnb hct2
      obtain ⟨hr1, hr2⟩ := HRF.out q hq2 hq3
      rw [hr1] at HR1
      have HR2q : Hid (∀ W (Sx : Nat → Prop) A' c' Aq cq, (∀ y, Sx y → y < W.heap.size) → SliceR treeE W Sx m.kids (.slice A' m.kids.length c') → IntsR W (Lt W.heap.size) q (.slice Aq q.length cq) → Calls Try.prog 27 #[.agg #[.int .i64 m.kind, .string m.text, .int .i64 m.cols, .slice A' m.kids.length c'], .slice Aq q.length cq] W (RowP Sx W (findS t p).1.kind (findS t p).1.text (findS t p).1.cols (findS t p).1.kids 0)) := fun W Sx A' c' Aq cq hs hm hq => by
        have h := HR2.out q W Sx A' c' Aq cq hs hm hq
        rw [hr2] at h
        exact h
      have HEQ : Hid (∀ W a b, SliceR treeE W (Lt W.heap.size) (findS t p).1.kids a → SliceR treeE W (Lt W.heap.size) (findS t p).1.kids b → Calls Try.prog 28 #[.agg #[.int .i64 (findS t p).1.kind, .string (findS t p).1.text, .int .i64 (findS t p).1.cols, a], .agg #[.int .i64 (findS t p).1.kind, .string (findS t p).1.text, .int .i64 (findS t p).1.cols, b]] W fun e w' => e = .returned (.bool true) ∧ Below W.heap.size W w') := fun W a b ha hb => by
        have h := equal_any (findS t p).1 (findS t p).1 W a b ha hb
        rw [(eqS_iff _ _).2 rfl] at h
        exact h
      generalize (findS t p).1 = R at *
      have HQ1 := hid hq1
      have HQC : Hid (∀ W A' n' c', IntsR W (Lt W.heap.size) MP (.slice A' n' c') → n' = q.length + 1 ∧ ∃ g o, A' = some ⟨g, o, none⟩ ∧ W.cell? ⟨g, o + q.length, none⟩ = some (.int .i64 z) ∧ n' ≤ c') := fun W A' n' c' h => by
        obtain ⟨_, _, ws, hq, h1, _, hrd, hls⟩ := h
        cases hq
        have hl : MP.length = q.length + 1 := by rw [hq1]; simp
        obtain ⟨g, o, e, _, _, hc⟩ := ints_at hrd hls (k := q.length) (by omega)
        refine ⟨hl, g, o, e, ?_, h1⟩
        rw [hc]
        congr 2
        simp [hq1]
      have HPC : Hid (∀ W, Below w.heap.size w W → ∃ g o, Ap = some ⟨g, o, none⟩ ∧ W.cell? ⟨g, o + p.length, none⟩ = some (.int .i64 z)) := fun W hW => by
        obtain ⟨_, _, ws, hq, _, _, hrd, hls⟩ := HPOS.out.below hW hW.size
        cases hq
        have hl : POS.length = p.length + 1 := by rw [← HPOZ.out]; simp
        obtain ⟨g, o, e, _, _, hc⟩ := ints_at hrd hls (k := p.length) (by omega)
        refine ⟨g, o, e, ?_⟩
        rw [hc]
        congr 2
        simp [← HPOZ.out]
      have ip1 : p.length < M := by have := HM.out; omega
      have ip2 : (p.length : Int) < (M : Int) := by omega
      have ip3 : (0 : Int) ≤ (p.length : Int) := by omega
      have iq3 : (0 : Int) ≤ (q.length : Int) := by omega
      have hz2 : (z == z) = true := by simp
      obtain ⟨tk, tx, tc, ts⟩ := t
      obtain ⟨kind, row, at_, n, nodes, slot, old, text⟩ := op
      obtain ⟨mk, mx, mc, ms⟩ := m
      simp only [opC, Tree.kind, Tree.text, Tree.cols, Tree.kids] at *
      obtain ⟨rk, rx, rc, rs⟩ := R
      simp only [Tree.kind, Tree.text, Tree.cols, Tree.kids] at *
      subst hk4
      clear hf ho hv hok hz0 hpos hsm hpl hf3 hct hfw hcn hok' hrb hrl hpb hpb' hvt hpi hcut hpath hap hap' hz64 hvm hcm hmx hsame hbg hnb hsm4 HHP HRF hct2 hq1 hq2 hq3 hr1 hr2 HNOT HR2
      go_enter Try.func8, Try.ntmps8
      go_wp2_with fail
      refine (awake_any _).mono ?_
      rintro e w1 ⟨rfl, hb1⟩
      obtain ⟨⟨m0, m1, m2, m3⟩, ⟨o0, o1, o2, o3, o4, o5, o6, o7⟩, hbw⟩ := KB.out w1 hb1
      have HK1 := hid hbw
      have HT1 := hid hb1
      clear hb1 hbw
      go_wp2_with fail
      refine (HFEW.out _ HK1.out).mono ?_
      rintro e w2 ⟨rfl, hb2⟩
      have HT2 := hid (HT1.out.trans (hb2.mono HT1.out.size))
      clear hb2
      clear m0 m1 m2 m3 o0 o1 o2 o3 o4 o5 o6 o7
      obtain ⟨⟨m0, m1, m2, m3⟩, ⟨o0, o1, o2, o3, o4, o5, o6, o7⟩, hbw⟩ := KB.out w2 HT2.out
      have HK2 := hid hbw
      clear hbw
      go_wp2_with fail
      refine (HVAL.out _ HK2.out).mono ?_
      rintro e w3 ⟨rfl, hb3⟩
      have HT3 := hid (HT2.out.trans (hb3.mono HT2.out.size))
      clear hb3
      clear m0 m1 m2 m3 o0 o1 o2 o3 o4 o5 o6 o7
      obtain ⟨⟨m0, m1, m2, m3⟩, ⟨o0, o1, o2, o3, o4, o5, o6, o7⟩, hbw⟩ := KB.out w3 HT3.out
      have HK3 := hid hbw
      clear hbw
      go_wp2_with fail
      refine (HLOST.out _ HK3.out).mono ?_
      rintro e w4 ⟨rfl, hb4⟩
      have HT4 := hid (HT3.out.trans (hb4.mono HT3.out.size))
      clear hb4
      clear m0 m1 m2 m3 o0 o1 o2 o3 o4 o5 o6 o7
      obtain ⟨⟨m0, m1, m2, m3⟩, ⟨o0, o1, o2, o3, o4, o5, o6, o7⟩, hbw⟩ := KB.out w4 HT4.out
      have HK4 := hid hbw
      clear hbw
      go_upto_region 4 with fail
      go_cut [8] (fun s wx => ∃ A8 l8 c8, s = .slice A8 l8 c8 ∧ IntsR wx (Lt wx.heap.size) (row ++ [at_, slot]) (.slice A8 l8 c8) ∧ Below w4.heap.size w4 wx)
      case first =>
        have hr0 := HROW.out w4 HK4.out
        have KC : Hid (∀ W, Below w4.heap.size w4 W → W.cell? ⟨w.heap.size + 1, 1, none⟩ = some (.slice Ar row.length cr) ∧ W.cell? ⟨w.heap.size + 1, 2, none⟩ = some (.int .i64 at_) ∧ W.cell? ⟨w.heap.size + 1, 5, none⟩ = some (.int .i64 slot)) := fun W h => by
          obtain ⟨_, ⟨_, h1, h2, _, _, h5, _, _⟩, _⟩ := KB.out W (HT4.out.trans (h.mono HT4.out.size))
          exact ⟨h1, h2, h5⟩
        have HE1 : Hid (∀ W', W' = w4.alloc (.cells #[] 3) → Owns W'.drew w4.heap.size [] (.slice (some ⟨w4.heap.size, 0, none⟩) 0 0) ∧ IntsR W'.drew (Lt W'.drew.heap.size) row (.slice Ar row.length cr) ∧ Below w4.heap.size w4 W'.drew) := by
          rintro W' rfl
          have hb : Below w4.heap.size w4 (w4.alloc (.cells #[] 3)).drew := (below_allocR _ _).drew
          exact ⟨owns_empty w4, hr0.below hb hb.size, hb⟩
        have HE2 : Hid (∀ W', W' = (w4.alloc (.cells #[] 3)).alloc (.cells #[.int .i64 at_, .int .i64 slot] 3) → Owns W'.drew w4.heap.size [] (.slice (some ⟨w4.heap.size, 0, none⟩) 0 0) ∧ IntsR W'.drew (Lt W'.drew.heap.size) row (.slice Ar row.length cr) ∧ Below w4.heap.size w4 W'.drew ∧ IntsR W'.drew (fun k => k = w4.heap.size + 1) [at_, slot] (.slice (some ⟨w4.heap.size + 1, 0, none⟩) 2 2) ∧ W'.drew.heap.size = w4.heap.size + 1 + 1) := by
          rintro W' rfl
          have hb1 : Below w4.heap.size w4 (w4.alloc (.cells #[] 3)) := below_allocR _ _
          have hb : Below w4.heap.size w4 ((w4.alloc (.cells #[] 3)).alloc (.cells #[.int .i64 at_, .int .i64 slot] 3)).drew := (Below.alloc hb1 hb1.size _).drew
          exact ⟨(owns_empty w4).below ((below_allocR _ _).drew), hr0.below hb hb.size, hb, ints_lit (w4.alloc (.cells #[] 3)) [at_, slot] HSL.out (S := fun k => k = w4.heap.size + 1) (by simp) _ 2 rfl rfl (by simp [maxLen]) _ _ (by simp), by simp⟩
        have HE3 : Hid (∀ W', W' = (w4.alloc (.cells #[.int .i64 at_, .int .i64 slot] 3)).alloc (.cells #[] 3) → Owns W'.drew w4.heap.size [] (.slice (some ⟨w4.heap.size + 1, 0, none⟩) 0 0) ∧ IntsR W'.drew (Lt W'.drew.heap.size) row (.slice Ar row.length cr) ∧ Below w4.heap.size w4 W'.drew ∧ IntsR W'.drew (fun k => k = w4.heap.size) [at_, slot] (.slice (some ⟨w4.heap.size, 0, none⟩) 2 2) ∧ W'.drew.heap.size = w4.heap.size + 1 + 1) := by
          rintro W' rfl
          have hb1 : Below w4.heap.size w4 (w4.alloc (.cells #[.int .i64 at_, .int .i64 slot] 3)) := below_allocR _ _
          have hb : Below w4.heap.size w4 ((w4.alloc (.cells #[.int .i64 at_, .int .i64 slot] 3)).alloc (.cells #[] 3)).drew := (Below.alloc hb1 hb1.size _).drew
          have ho := (owns_empty (w4.alloc (.cells #[.int .i64 at_, .int .i64 slot] 3))).base (b' := w4.heap.size) (by simp)
          have hsz : (w4.alloc (.cells #[.int .i64 at_, .int .i64 slot] 3)).heap.size = w4.heap.size + 1 := by simp
          rw [hsz] at ho
          exact ⟨ho, hr0.below hb hb.size, hb, (ints_lit w4 [at_, slot] HSL.out (S := fun k => k = w4.heap.size) rfl _ 2 rfl rfl (by simp [maxLen]) _ _ rfl).keep (fun p hp => (below_allocR (w4.alloc (.cells #[.int .i64 at_, .int .i64 slot] 3)) (.cells #[] 3)).cell (by rw [hp]; simp)) (fun _ h => h), by simp⟩
        clear hr0
        have hrl' := HRL.out
        go_region_held3 (fun w' => w'.cell? ⟨w.heap.size + 1, 1, none⟩ = some (.slice Ar row.length cr) ∧ w'.cell? ⟨w.heap.size + 1, 2, none⟩ = some (.int .i64 at_) ∧ w'.cell? ⟨w.heap.size + 1, 5, none⟩ = some (.int .i64 slot)) (go_keep) (first
          | (refine step_app_intsR (by rfl) (.tmp 43) (.tmp 45) (by rfl) w4.heap.size _ [] row (by rfl) (HE1.out _ rfl).1 _ _ _ _ (by rfl) (HE1.out _ rfl).2.1 (by simp; omega) (by simp) ?_; intro v1 x1 hown1 hb1 hg1; have HO1 := hid hown1; have HB1 := hid ((HE1.out _ rfl).2.2.trans hb1); obtain ⟨p1, p2, p5⟩ := KC.out x1 HB1.out; clear hown1 hb1 hg1)
          | (refine step_app_intsR (by rfl) (.tmp 43) (.tmp 45) (by rfl) w4.heap.size _ [] row (by rfl) (HE2.out _ rfl).1 _ _ _ _ (by rfl) (HE2.out _ rfl).2.1 (by simp; omega) (by simp; omega) ?_; intro v1 x1 hown1 hb1 hg1; have HL1 := hid (ints_grown (HE2.out _ rfl).2.2.2.1 hg1 (by have := (HE2.out _ rfl).2.2.2.2; omega) (by simp [Value.ownBlock])); have HO1 := hid hown1; have HB1 := hid ((HE2.out _ rfl).2.2.1.trans hb1); obtain ⟨p1, p2, p5⟩ := KC.out x1 HB1.out; clear hown1 hb1 hg1)
          | (refine step_app_intsR (by rfl) (.tmp 43) (.tmp 45) (by rfl) w4.heap.size _ [] row (by rfl) (HE3.out _ rfl).1 _ _ _ _ (by rfl) (HE3.out _ rfl).2.1 (by simp; omega) (by simp; omega) ?_; intro v1 x1 hown1 hb1 hg1; have HL1 := hid (ints_grown (HE3.out _ rfl).2.2.2.1 hg1 (by have := (HE3.out _ rfl).2.2.2.2; omega) (by simp [Value.ownBlock])); have HO1 := hid hown1; have HB1 := hid ((HE3.out _ rfl).2.2.1.trans hb1); obtain ⟨p1, p2, p5⟩ := KC.out x1 HB1.out; clear hown1 hb1 hg1)
          | (refine step_app_intsR (by rfl) (.tmp 46) (.tmp 51) (by rfl) w4.heap.size v1 ([] ++ row) [at_, slot] (by rfl) HO1.out _ _ _ _ (by rfl) HL1.out (by simp; omega) HB1.out.size ?_; intro v2 x2 hown2 hb2 _; simp only [List.nil_append] at hown2; have HO2 := hid hown2; have HB2 := hid (HB1.out.trans hb2); obtain ⟨p1, p2, p5⟩ := KC.out x2 HB2.out; clear hown2 hb2)
          | (refine step_app_intsR (by rfl) (.tmp 46) (.tmp 51) (by rfl) w4.heap.size v1 ([] ++ row) [at_, slot] (by rfl) (HO1.out.below (below_allocR _ _)) (Lt (x1.alloc (.cells #[.int .i64 at_, .int .i64 slot] 3)).heap.size) _ _ _ (by rfl) (ints_lit x1 [at_, slot] HSL.out (by unfold Lt; simp) _ 2 rfl rfl (by simp [maxLen]) _ _ rfl) (by simp; omega) (by have := HB1.out.size; simp; omega) ?_; intro v2 x2 hown2 hb2 _; simp only [List.nil_append] at hown2; have HO2 := hid hown2; have HB2 := hid (HB1.out.trans ((Below.alloc (Below.refl w4.heap.size x1) HB1.out.size _).trans hb2)); obtain ⟨p1, p2, p5⟩ := KC.out x2 HB2.out; clear hown2 hb2))
        all_goals
          go_wp2_with fail
          go_meet
          have hi2 := HO2.out.ints (S := Lt x2.heap.size) (fun _ _ h => h)
          obtain ⟨A8, c8, hv2⟩ := hi2.form
          subst hv2
          exact ⟨A8, _, c8, rfl, hi2, HB2.out⟩
      case rest =>
        obtain ⟨A8, l8, c8, rfl, hi8, hb5⟩ := hcut
        have HI8 := hid hi8
        have HT5 := hid (HT4.out.trans (hb5.mono HT4.out.size))
        clear hi8 hb5
        clear m0 m1 m2 m3 o0 o1 o2 o3 o4 o5 o6 o7
        obtain ⟨⟨m0, m1, m2, m3⟩, ⟨o0, o1, o2, o3, o4, o5, o6, o7⟩, hbw⟩ := KB.out wc HT5.out
        have HK5 := hid hbw
        clear hbw
        go_wp2_with fail
        refine (HAPP.out _ HK5.out).mono ?_
        intro e w6 h6
        obtain ⟨v6, rfl, hr6, hb6⟩ : ∃ v, e = .returned (.tuple #[.agg #[.int .i64 mk, .string mx, .int .i64 mc, v], .int .i64 0]) ∧ SliceR treeE w6 (NS (Lt w.heap.size) wc.heap.size w6) ms v ∧ Below wc.heap.size wc w6 := h6
        obtain ⟨A6, c6, rfl⟩ := hr6.form
        have HT6 := hid (HT5.out.trans (hb6.mono HT5.out.size))
        have HR6 : Hid (SliceR treeE w6 (Lt w6.heap.size) ms (.slice A6 ms.length c6)) := hr6.keep (fun _ _ => rfl) (fun q hq => by
          rcases hq with hq | hq
          · exact Nat.lt_of_lt_of_le hq (Nat.le_trans HK5.out.size hb6.size)
          · exact hq.2)
        have HI86 := hid (HI8.out.below hb6 hb6.size)
        clear hb6 hr6
        clear m0 m1 m2 m3 o0 o1 o2 o3 o4 o5 o6 o7
        go_upto_region 6 with fail
        obtain ⟨X, hX⟩ : ∃ X, w6.alloc (Obj.cells #[.int .i64 mk, .string mx, .int .i64 mc, .slice A6 ms.length c6] 24) = X := ⟨_, rfl⟩
        rw [hX]
        have hXB : Below w6.heap.size w6 X := by rw [← hX]; exact blA _ _
        have hXM : Box4 X w6.heap.size mk mx mc (.slice A6 ms.length c6) := by rw [← hX]; exact Box4.new _ _ _ _ _ _
        have hXZ : w6.heap.size < X.heap.size := by rw [← hX]; simp
        have HTX := hid (HT6.out.trans (hXB.mono HT6.out.size))
        have HRX := hid (HR6.out.below hXB hXB.size)
        have HI8X := hid (HI86.out.below hXB hXB.size)
        have KX : Hid (∀ W, Below X.heap.size X W → Box4 W w6.heap.size mk mx mc (.slice A6 ms.length c6) ∧ SliceR treeE W (Lt W.heap.size) ms (.slice A6 ms.length c6) ∧ Box4 W w.heap.size tk tx tc (.slice A ts.length cap) ∧ OpBox W (w.heap.size + 1) ⟨4, row, at_, n, nodes, slot, old, text⟩ (.slice Ar row.length cr) (.slice An nodes.length cn) ∧ Below w.heap.size w W) := fun W hW =>
          ⟨hXM.below hW hXZ, HRX.out.below hW hW.size, KB.out W (HTX.out.trans (hW.mono HTX.out.size))⟩
        obtain ⟨_, _, _, ⟨o0, o1, o2, o3, o4, o5, o6, o7⟩, hbw⟩ := KX.out X (Below.refl _ _)
        have HKX := hid hbw
        clear hX hXB hXM hXZ hbw
        go_wp2_with fail
        refine (HBE.out _ HKX.out).mono ?_
        rintro e w7 ⟨rfl, n7, rfl⟩
        obtain ⟨_, _, _, ⟨o0, o1, o2, o3, o4, o5, o6, o7⟩, _⟩ := KX.out (X.drewN n7) (bl_dnC (Below.refl _ _))
        go_wp2_with fail
        refine (HSM.out (X.drewN n7) _ (HI8X.out.keep (fun _ _ => rfl) (fun _ h => h)) (bl_dnC HKX.out)).mono ?_
        rintro e w8 ⟨rfl, n8, rfl⟩
        clear o0 o1 o2 o3 o4 o5 o6 o7
        obtain ⟨_, _, _, ⟨o0, o1, o2, o3, o4, o5, o6, o7⟩, _⟩ := KX.out (X.drewN (n7 + n8)) (bl_dnC (Below.refl _ _))
        go_wp2_with fail
        refine (HMAP.out _ (bl_dnC (n := n7 + n8) HKX.out)).mono ?_
        rintro e w9 ⟨v9, rfl, hi9, hb9⟩
        obtain ⟨A9, c9, rfl⟩ := hi9.form
        have HT9 : Hid (Below X.heap.size X w9) := hid (ofDn hb9)
        have HK9 := hid (blCall (bl_dnC (n := n7 + n8) HKX.out) hb9)
        have HI9 := hid hi9
        generalize MP.length = MQ at *
        obtain ⟨hmq, gq, oq, rfl, q9, hcq⟩ := HQC.out _ _ _ _ hi9
        obtain ⟨gp, op_, rfl, p9⟩ := HPC.out w9 HK9.out
        have iq1 : q.length < MQ := by omega
        have iq2 : (q.length : Int) < (MQ : Int) := by omega
        have iq4 : ((MQ : Int) == 0) = false := by simp; omega
        have hwq : IntKind.i64.wrap ((MQ : Int) - 1) = (q.length : Int) := by rw [hmq, show (((q.length + 1 : Nat) : Int) - 1) = (q.length : Int) by omega]; exact IntWalk.i64_in _ (by have h9 := HI9.out.lens; rw [HQ1.out] at h9; simp at h9; unfold maxLen at h9; omega)
        obtain ⟨A10, hslq, hcutq⟩ := cut_h intE Try.underlying25 size_int (some ⟨gq, oq, none⟩) MQ c9 (q.length : Int) q.length rfl (by omega) hcq
        have HCQ : Hid (∀ W, Below w9.heap.size w9 W → IntsR W (Lt W.heap.size) q (.slice A10 q.length c9)) := fun W hW => by
          have h := hcutq _ _ _ (HI9.out.below hW hW.size)
          rw [HQ1.out, List.take_left' rfl] at h
          exact h
        clear hi9 hb9 hcutq hmq hcq
        clear o0 o1 o2 o3 o4 o5 o6 o7
        go_wp2_with fail
        go_quiet (fail)
        obtain ⟨_, _, ⟨m0, m1, m2, m3⟩, _, _⟩ := KX.out w9 HT9.out
        go_wp2_with fail
        refine (HR1.out _ (bl_dnC HK9.out)).mono ?_
        intro e w11 h11
        obtain ⟨v11, rfl, hr11, hb11⟩ : ∃ v, e = .returned (.tuple #[.agg #[.int .i64 rk, .string rx, .int .i64 rc, v], .int .i64 0]) ∧ SliceR treeE w11 (Lt w.heap.size) rs v ∧ Below w9.heap.size w9 w11 := by
          obtain ⟨v, e1, e2, e3⟩ := h11
          exact ⟨v, e1, e2, ofDn e3⟩
        obtain ⟨A11, c11, rfl⟩ := hr11.form
        have HT11 := hid (blCall HT9.out hb11)
        have HB11 := hid hb11
        have HR11 : Hid (SliceR treeE w11 (Lt w11.heap.size) rs (.slice A11 rs.length c11)) := hr11.keep (fun _ _ => rfl) (fun y hy => Nat.lt_of_lt_of_le hy (Nat.le_trans HK9.out.size hb11.size))
        clear h11 hr11 hb11 m0 m1 m2 m3 q9 p9
        go_upto_region 12 with fail
        obtain ⟨Y, hY⟩ : ∃ Y, w11.alloc (Obj.cells #[.int .i64 rk, .string rx, .int .i64 rc, .slice A11 rs.length c11] 24) = Y := ⟨_, rfl⟩
        rw [hY]
        have hYB : Below w11.heap.size w11 Y := by rw [← hY]; exact blA _ _
        have hYM : Box4 Y w11.heap.size rk rx rc (.slice A11 rs.length c11) := by rw [← hY]; exact Box4.new _ _ _ _ _ _
        have hYZ : w11.heap.size < Y.heap.size := by rw [← hY]; simp
        have HTY := hid (blCall HT11.out hYB)
        have HBY := hid (blCall HB11.out hYB)
        have HRY := hid (HR11.out.below hYB hYB.size)
        have KY : Hid (∀ W, Below Y.heap.size Y W → Box4 W w11.heap.size rk rx rc (.slice A11 rs.length c11) ∧ SliceR treeE W (Lt Y.heap.size) rs (.slice A11 rs.length c11) ∧ Box4 W w6.heap.size mk mx mc (.slice A6 ms.length c6) ∧ SliceR treeE W (Lt Y.heap.size) ms (.slice A6 ms.length c6) ∧ Below w.heap.size w W ∧ IntsR W (Lt W.heap.size) q (.slice A10 q.length c9)) := fun W hW => by
          obtain ⟨k1, _, _, _, k5⟩ := KX.out W (blCall HTY.out hW)
          obtain ⟨_, k2, _⟩ := KX.out Y HTY.out
          exact ⟨hYM.below hW hYZ, HRY.out.below hW (Nat.le_refl _), k1, k2.below hW (Nat.le_refl _), k5, HCQ.out W (blCall HBY.out hW)⟩
        obtain ⟨_, _, ⟨m0, m1, m2, m3⟩, _, _⟩ := KY.out Y (Below.refl _ _)
        have hwmy : w6.heap.size < Y.heap.size := by have h9 := cellLt m0; exact h9
        have ne9 : ¬ (Y.heap.size = w6.heap.size) := by omega
        have HNE : Hid (w11.heap.size < Y.heap.size) := hYZ
        clear hY hYB hYM hYZ hwmy
        have HS1 : Hid (∀ y, Lt Y.heap.size y → y < Y.drew.heap.size) := fun y h => h
        have HS2 : Hid (∀ y, Lt Y.heap.size y → y < (Y.alloc (Obj.cells #[.int .i64 0, .string ⟨#[]⟩, .int .i64 0, .slice none 0 0] 24)).drew.heap.size) := fun y h => Nat.lt_of_lt_of_le h (blA _ _).size
        have HD1 := hid (KY.out Y.drew (Below.refl _ _).drew)
        have HD2 := hid (KY.out (Y.alloc (Obj.cells #[.int .i64 0, .string ⟨#[]⟩, .int .i64 0, .slice none 0 0] 24)).drew (blA _ _).drew)
        have HYN : Hid (Box4 (Y.alloc (Obj.cells #[.int .i64 0, .string ⟨#[]⟩, .int .i64 0, .slice none 0 0] 24)) Y.heap.size 0 ⟨#[]⟩ 0 (.slice none 0 0) ∧ Free4 (Y.alloc (Obj.cells #[.int .i64 0, .string ⟨#[]⟩, .int .i64 0, .slice none 0 0] 24)) Y.heap.size ∧ Y.heap.size < (Y.alloc (Obj.cells #[.int .i64 0, .string ⟨#[]⟩, .int .i64 0, .slice none 0 0] 24)).heap.size) := ⟨Box4.new _ _ _ _ _ _, Free4.new _ _ _, by simp⟩
        go_wp2_with fail
        go_region_held3 (fun w' => w'.cell? ⟨w6.heap.size, 0, none⟩ = some (.int .i64 mk) ∧ w'.cell? ⟨w6.heap.size, 1, none⟩ = some (.string mx) ∧ w'.cell? ⟨w6.heap.size, 2, none⟩ = some (.int .i64 mc) ∧ w'.cell? ⟨w6.heap.size, 3, none⟩ = some (.slice A6 ms.length c6)) (go_keep) (first
          | (go_at_call 27; refine (HR2q.out _ (Lt Y.heap.size) _ _ _ _ HS1.out HD1.out.2.2.2.1 HD1.out.2.2.2.2.2).mono ?_; intro e w13 h13; obtain ⟨v13, rfl, hr13, hb13⟩ := h13; obtain ⟨A13, c13, rfl⟩ := hr13.form; have HR13 := hid hr13; have HB13 : Hid (Below Y.heap.size Y w13) := ofDrew hb13; clear hr13 hb13; obtain ⟨_, _, ⟨m0, m1, m2, m3⟩, _, _⟩ := KY.out w13 HB13.out)
          | (go_at_call 27; refine (HR2q.out _ (Lt Y.heap.size) _ _ _ _ HS2.out HD2.out.2.2.2.1 HD2.out.2.2.2.2.2).mono ?_; intro e w13 h13; obtain ⟨v13, rfl, hr13, hb13⟩ := h13; obtain ⟨A13, c13, rfl⟩ := hr13.form; have HR13 := hid hr13; have HQ13 := hid (ofDrew hb13); have HB13 := hid (blCall (blA _ _) HQ13.out); have hy := HYN.out.1.below HQ13.out HYN.out.2.2; have hyf := HYN.out.2.1.below HQ13.out HYN.out.2.2; have HYB := hid hy; obtain ⟨u0, u1, u2, u3⟩ := hy; obtain ⟨l0, l1, l2, l3⟩ := hyf; clear hr13 hb13; obtain ⟨_, _, ⟨m0, m1, m2, m3⟩, _, _⟩ := KY.out w13 HB13.out))
        · obtain ⟨Z, hZ⟩ : ∃ Z, w13.alloc (Obj.cells #[.int .i64 rk, .string rx, .int .i64 rc, .slice A13 rs.length c13] 24) = Z := ⟨_, rfl⟩
          rw [hZ]
          have hZB : Below w13.heap.size w13 Z := by rw [← hZ]; exact blA _ _
          have hZM : Box4 Z w13.heap.size rk rx rc (.slice A13 rs.length c13) := by rw [← hZ]; exact Box4.new _ _ _ _ _ _
          have hyz : Below Y.heap.size Y Z := blCall HB13.out hZB
          obtain ⟨⟨b0, b1, b2, b3⟩, hra, _, _, hbz, _⟩ := KY.out Z hyz
          have HE := hid (HEQ.out Z _ _ (hra.keep (fun _ _ => rfl) (fun y hy => Nat.lt_of_lt_of_le hy hyz.size)) (HR13.out.keep (w' := Z) (fun y hy => hZB.cell (Nat.lt_of_lt_of_le hy HB13.out.size)) (fun y hy => Nat.lt_of_lt_of_le hy hyz.size)))
          have HKZ := hid hbz
          obtain ⟨g0, g1, g2, g3⟩ := hZM
          clear hZ hZB hyz hra hbz m0 m1 m2 m3
          go_wp2_with fail
          refine HE.out.mono ?_
          rintro e w14 ⟨rfl, hb14⟩
          have HK14 := hid (blCall HKZ.out hb14)
          clear hb14
          go_wp2_with fail
          go_ret
          exact ⟨rfl, HK14.out⟩
        · obtain ⟨Z, hZ⟩ : ∃ Z, ((((w13.setCell ⟨Y.heap.size, 0, none⟩ (.int .i64 rk)).setCell ⟨Y.heap.size, 1, none⟩ (.string rx)).setCell ⟨Y.heap.size, 2, none⟩ (.int .i64 rc)).setCell ⟨Y.heap.size, 3, none⟩ (.slice A13 rs.length c13)) = Z := ⟨_, rfl⟩
          rw [hZ]
          obtain ⟨⟨g0, g1, g2, g3⟩, hZs, hZB, hZo, hZr, hZf⟩ := fourAt (o := 0) HYB.out.1 HYB.out.2.1 HYB.out.2.2.1 HYB.out.2.2.2 _ _ _ _ hZ.symm
          simp only [Nat.zero_add] at g1 g2 g3
          have hyz : Below Y.heap.size Y Z := hZB Y.heap.size Y (Nat.le_refl _) HB13.out
          obtain ⟨⟨b0, b1, b2, b3⟩, hra, _, _, hbz, _⟩ := KY.out Z hyz
          have HE := hid (HEQ.out Z _ _ (hra.keep (fun _ _ => rfl) (fun y hy => Nat.lt_of_lt_of_le hy hyz.size)) (HR13.out.keep (w' := Z) (fun y hy => hZo y (Nat.ne_of_lt hy)) (fun y hy => Nat.lt_of_lt_of_le hy hyz.size)))
          have HKZ := hid hbz
          clear hZ hZs hZB hZo hZr hZf hyz hra hbz m0 m1 m2 m3 u0 u1 u2 u3 l0 l1 l2 l3
          go_wp2_with fail
          refine HE.out.mono ?_
          rintro e w14 ⟨rfl, hb14⟩
          have HK14 := hid (blCall HKZ.out hb14)
          clear hb14
          go_wp2_with fail
          go_ret
          exact ⟨rfl, HK14.out⟩
  · have HNOT : ¬ (op.kind = 4 ∧ p = op.row ++ [op.at_, op.slot]) := fun h => hk4 h.1
    have hct2 : ¬ (op.kind = 4 ∧ p = op.row ++ [op.at_, op.slot]) := HNOT
    obtain ⟨q, hq1, hq2, hq3⟩ := HHP.out rfl hnb hct2
    obtain ⟨hr1, hr2⟩ := HRF.out q hq2 hq3
    rw [hr1] at HR1
    have HR2q : Hid (∀ W (Sx : Nat → Prop) A' c' Aq cq, (∀ y, Sx y → y < W.heap.size) → SliceR treeE W Sx m.kids (.slice A' m.kids.length c') → IntsR W (Lt W.heap.size) q (.slice Aq q.length cq) → Calls Try.prog 27 #[.agg #[.int .i64 m.kind, .string m.text, .int .i64 m.cols, .slice A' m.kids.length c'], .slice Aq q.length cq] W (RowP Sx W (findS t p).1.kind (findS t p).1.text (findS t p).1.cols (findS t p).1.kids 0)) := fun W Sx A' c' Aq cq hs hm hq => by
      have h := HR2.out q W Sx A' c' Aq cq hs hm hq
      rw [hr2] at h
      exact h
    have HEQ : Hid (∀ W a b, SliceR treeE W (Lt W.heap.size) (findS t p).1.kids a → SliceR treeE W (Lt W.heap.size) (findS t p).1.kids b → Calls Try.prog 28 #[.agg #[.int .i64 (findS t p).1.kind, .string (findS t p).1.text, .int .i64 (findS t p).1.cols, a], .agg #[.int .i64 (findS t p).1.kind, .string (findS t p).1.text, .int .i64 (findS t p).1.cols, b]] W fun e w' => e = .returned (.bool true) ∧ Below W.heap.size W w') := fun W a b ha hb => by
      have h := equal_any (findS t p).1 (findS t p).1 W a b ha hb
      rw [(eqS_iff _ _).2 rfl] at h
      exact h
    generalize (findS t p).1 = R at *
    have HQ1 := hid hq1
    have HQC : Hid (∀ W A' n' c', IntsR W (Lt W.heap.size) MP (.slice A' n' c') → n' = q.length + 1 ∧ ∃ g o, A' = some ⟨g, o, none⟩ ∧ W.cell? ⟨g, o + q.length, none⟩ = some (.int .i64 z) ∧ n' ≤ c') := fun W A' n' c' h => by
      obtain ⟨_, _, ws, hq, h1, _, hrd, hls⟩ := h
      cases hq
      have hl : MP.length = q.length + 1 := by rw [hq1]; simp
      obtain ⟨g, o, e, _, _, hc⟩ := ints_at hrd hls (k := q.length) (by omega)
      refine ⟨hl, g, o, e, ?_, h1⟩
      rw [hc]
      congr 2
      simp [hq1]
    have HPC : Hid (∀ W, Below w.heap.size w W → ∃ g o, Ap = some ⟨g, o, none⟩ ∧ W.cell? ⟨g, o + p.length, none⟩ = some (.int .i64 z)) := fun W hW => by
      obtain ⟨_, _, ws, hq, _, _, hrd, hls⟩ := HPOS.out.below hW hW.size
      cases hq
      have hl : POS.length = p.length + 1 := by rw [← HPOZ.out]; simp
      obtain ⟨g, o, e, _, _, hc⟩ := ints_at hrd hls (k := p.length) (by omega)
      refine ⟨g, o, e, ?_⟩
      rw [hc]
      congr 2
      simp [← HPOZ.out]
    have ip1 : p.length < M := by have := HM.out; omega
    have ip2 : (p.length : Int) < (M : Int) := by omega
    have ip3 : (0 : Int) ≤ (p.length : Int) := by omega
    have iq3 : (0 : Int) ≤ (q.length : Int) := by omega
    have hz2 : (z == z) = true := by simp
    have i4 : (op.kind == 4) = false := by simpa using hk4
    obtain ⟨tk, tx, tc, ts⟩ := t
    obtain ⟨kind, row, at_, n, nodes, slot, old, text⟩ := op
    obtain ⟨mk, mx, mc, ms⟩ := m
    simp only [opC, Tree.kind, Tree.text, Tree.cols, Tree.kids] at *
    obtain ⟨rk, rx, rc, rs⟩ := R
    simp only [Tree.kind, Tree.text, Tree.cols, Tree.kids] at *
    clear hf ho hv hok hz0 hpos hsm hpl hf3 hct hfw hcn hok' hrb hrl hpb hpb' hvt hpi hcut hpath hap hap' hz64 hvm hcm hmx hsame hbg hnb HHP HRF HSM hct2 hq1 hq2 hq3 hr1 hr2 HNOT HR2 hk4
    go_enter Try.func8, Try.ntmps8
    go_wp2_with fail
    refine (awake_any _).mono ?_
    rintro e w1 ⟨rfl, hb1⟩
    obtain ⟨⟨m0, m1, m2, m3⟩, ⟨o0, o1, o2, o3, o4, o5, o6, o7⟩, hbw⟩ := KB.out w1 hb1
    have HK1 := hid hbw
    have HT1 := hid hb1
    clear hb1 hbw
    go_wp2_with fail
    refine (HFEW.out _ HK1.out).mono ?_
    rintro e w2 ⟨rfl, hb2⟩
    have HT2 := hid (HT1.out.trans (hb2.mono HT1.out.size))
    clear hb2
    clear m0 m1 m2 m3 o0 o1 o2 o3 o4 o5 o6 o7
    obtain ⟨⟨m0, m1, m2, m3⟩, ⟨o0, o1, o2, o3, o4, o5, o6, o7⟩, hbw⟩ := KB.out w2 HT2.out
    have HK2 := hid hbw
    clear hbw
    go_wp2_with fail
    refine (HVAL.out _ HK2.out).mono ?_
    rintro e w3 ⟨rfl, hb3⟩
    have HT3 := hid (HT2.out.trans (hb3.mono HT2.out.size))
    clear hb3
    clear m0 m1 m2 m3 o0 o1 o2 o3 o4 o5 o6 o7
    obtain ⟨⟨m0, m1, m2, m3⟩, ⟨o0, o1, o2, o3, o4, o5, o6, o7⟩, hbw⟩ := KB.out w3 HT3.out
    have HK3 := hid hbw
    clear hbw
    go_wp2_with fail
    refine (HLOST.out _ HK3.out).mono ?_
    rintro e w4 ⟨rfl, hb4⟩
    have HT4 := hid (HT3.out.trans (hb4.mono HT3.out.size))
    clear hb4
    clear m0 m1 m2 m3 o0 o1 o2 o3 o4 o5 o6 o7
    obtain ⟨⟨m0, m1, m2, m3⟩, ⟨o0, o1, o2, o3, o4, o5, o6, o7⟩, hbw⟩ := KB.out w4 HT4.out
    have HK4 := hid hbw
    clear hbw
    go_upto_region 4 with fail
    go_cut [8] (fun s wx => ∃ A8 l8 c8, s = .slice A8 l8 c8 ∧ IntsR wx (Lt wx.heap.size) (row ++ [at_, slot]) (.slice A8 l8 c8) ∧ Below w4.heap.size w4 wx)
    case first =>
      have hr0 := HROW.out w4 HK4.out
      have KC : Hid (∀ W, Below w4.heap.size w4 W → W.cell? ⟨w.heap.size + 1, 1, none⟩ = some (.slice Ar row.length cr) ∧ W.cell? ⟨w.heap.size + 1, 2, none⟩ = some (.int .i64 at_) ∧ W.cell? ⟨w.heap.size + 1, 5, none⟩ = some (.int .i64 slot)) := fun W h => by
        obtain ⟨_, ⟨_, h1, h2, _, _, h5, _, _⟩, _⟩ := KB.out W (HT4.out.trans (h.mono HT4.out.size))
        exact ⟨h1, h2, h5⟩
      have HE1 : Hid (∀ W', W' = w4.alloc (.cells #[] 3) → Owns W'.drew w4.heap.size [] (.slice (some ⟨w4.heap.size, 0, none⟩) 0 0) ∧ IntsR W'.drew (Lt W'.drew.heap.size) row (.slice Ar row.length cr) ∧ Below w4.heap.size w4 W'.drew) := by
        rintro W' rfl
        have hb : Below w4.heap.size w4 (w4.alloc (.cells #[] 3)).drew := (below_allocR _ _).drew
        exact ⟨owns_empty w4, hr0.below hb hb.size, hb⟩
      have HE2 : Hid (∀ W', W' = (w4.alloc (.cells #[] 3)).alloc (.cells #[.int .i64 at_, .int .i64 slot] 3) → Owns W'.drew w4.heap.size [] (.slice (some ⟨w4.heap.size, 0, none⟩) 0 0) ∧ IntsR W'.drew (Lt W'.drew.heap.size) row (.slice Ar row.length cr) ∧ Below w4.heap.size w4 W'.drew ∧ IntsR W'.drew (fun k => k = w4.heap.size + 1) [at_, slot] (.slice (some ⟨w4.heap.size + 1, 0, none⟩) 2 2) ∧ W'.drew.heap.size = w4.heap.size + 1 + 1) := by
        rintro W' rfl
        have hb1 : Below w4.heap.size w4 (w4.alloc (.cells #[] 3)) := below_allocR _ _
        have hb : Below w4.heap.size w4 ((w4.alloc (.cells #[] 3)).alloc (.cells #[.int .i64 at_, .int .i64 slot] 3)).drew := (Below.alloc hb1 hb1.size _).drew
        exact ⟨(owns_empty w4).below ((below_allocR _ _).drew), hr0.below hb hb.size, hb, ints_lit (w4.alloc (.cells #[] 3)) [at_, slot] HSL.out (S := fun k => k = w4.heap.size + 1) (by simp) _ 2 rfl rfl (by simp [maxLen]) _ _ (by simp), by simp⟩
      have HE3 : Hid (∀ W', W' = (w4.alloc (.cells #[.int .i64 at_, .int .i64 slot] 3)).alloc (.cells #[] 3) → Owns W'.drew w4.heap.size [] (.slice (some ⟨w4.heap.size + 1, 0, none⟩) 0 0) ∧ IntsR W'.drew (Lt W'.drew.heap.size) row (.slice Ar row.length cr) ∧ Below w4.heap.size w4 W'.drew ∧ IntsR W'.drew (fun k => k = w4.heap.size) [at_, slot] (.slice (some ⟨w4.heap.size, 0, none⟩) 2 2) ∧ W'.drew.heap.size = w4.heap.size + 1 + 1) := by
        rintro W' rfl
        have hb1 : Below w4.heap.size w4 (w4.alloc (.cells #[.int .i64 at_, .int .i64 slot] 3)) := below_allocR _ _
        have hb : Below w4.heap.size w4 ((w4.alloc (.cells #[.int .i64 at_, .int .i64 slot] 3)).alloc (.cells #[] 3)).drew := (Below.alloc hb1 hb1.size _).drew
        have ho := (owns_empty (w4.alloc (.cells #[.int .i64 at_, .int .i64 slot] 3))).base (b' := w4.heap.size) (by simp)
        have hsz : (w4.alloc (.cells #[.int .i64 at_, .int .i64 slot] 3)).heap.size = w4.heap.size + 1 := by simp
        rw [hsz] at ho
        exact ⟨ho, hr0.below hb hb.size, hb, (ints_lit w4 [at_, slot] HSL.out (S := fun k => k = w4.heap.size) rfl _ 2 rfl rfl (by simp [maxLen]) _ _ rfl).keep (fun p hp => (below_allocR (w4.alloc (.cells #[.int .i64 at_, .int .i64 slot] 3)) (.cells #[] 3)).cell (by rw [hp]; simp)) (fun _ h => h), by simp⟩
      clear hr0
      have hrl' := HRL.out
      go_region_held3 (fun w' => w'.cell? ⟨w.heap.size + 1, 1, none⟩ = some (.slice Ar row.length cr) ∧ w'.cell? ⟨w.heap.size + 1, 2, none⟩ = some (.int .i64 at_) ∧ w'.cell? ⟨w.heap.size + 1, 5, none⟩ = some (.int .i64 slot)) (go_keep) (first
        | (refine step_app_intsR (by rfl) (.tmp 43) (.tmp 45) (by rfl) w4.heap.size _ [] row (by rfl) (HE1.out _ rfl).1 _ _ _ _ (by rfl) (HE1.out _ rfl).2.1 (by simp; omega) (by simp) ?_; intro v1 x1 hown1 hb1 hg1; have HO1 := hid hown1; have HB1 := hid ((HE1.out _ rfl).2.2.trans hb1); obtain ⟨p1, p2, p5⟩ := KC.out x1 HB1.out; clear hown1 hb1 hg1)
        | (refine step_app_intsR (by rfl) (.tmp 43) (.tmp 45) (by rfl) w4.heap.size _ [] row (by rfl) (HE2.out _ rfl).1 _ _ _ _ (by rfl) (HE2.out _ rfl).2.1 (by simp; omega) (by simp; omega) ?_; intro v1 x1 hown1 hb1 hg1; have HL1 := hid (ints_grown (HE2.out _ rfl).2.2.2.1 hg1 (by have := (HE2.out _ rfl).2.2.2.2; omega) (by simp [Value.ownBlock])); have HO1 := hid hown1; have HB1 := hid ((HE2.out _ rfl).2.2.1.trans hb1); obtain ⟨p1, p2, p5⟩ := KC.out x1 HB1.out; clear hown1 hb1 hg1)
        | (refine step_app_intsR (by rfl) (.tmp 43) (.tmp 45) (by rfl) w4.heap.size _ [] row (by rfl) (HE3.out _ rfl).1 _ _ _ _ (by rfl) (HE3.out _ rfl).2.1 (by simp; omega) (by simp; omega) ?_; intro v1 x1 hown1 hb1 hg1; have HL1 := hid (ints_grown (HE3.out _ rfl).2.2.2.1 hg1 (by have := (HE3.out _ rfl).2.2.2.2; omega) (by simp [Value.ownBlock])); have HO1 := hid hown1; have HB1 := hid ((HE3.out _ rfl).2.2.1.trans hb1); obtain ⟨p1, p2, p5⟩ := KC.out x1 HB1.out; clear hown1 hb1 hg1)
        | (refine step_app_intsR (by rfl) (.tmp 46) (.tmp 51) (by rfl) w4.heap.size v1 ([] ++ row) [at_, slot] (by rfl) HO1.out _ _ _ _ (by rfl) HL1.out (by simp; omega) HB1.out.size ?_; intro v2 x2 hown2 hb2 _; simp only [List.nil_append] at hown2; have HO2 := hid hown2; have HB2 := hid (HB1.out.trans hb2); obtain ⟨p1, p2, p5⟩ := KC.out x2 HB2.out; clear hown2 hb2)
        | (refine step_app_intsR (by rfl) (.tmp 46) (.tmp 51) (by rfl) w4.heap.size v1 ([] ++ row) [at_, slot] (by rfl) (HO1.out.below (below_allocR _ _)) (Lt (x1.alloc (.cells #[.int .i64 at_, .int .i64 slot] 3)).heap.size) _ _ _ (by rfl) (ints_lit x1 [at_, slot] HSL.out (by unfold Lt; simp) _ 2 rfl rfl (by simp [maxLen]) _ _ rfl) (by simp; omega) (by have := HB1.out.size; simp; omega) ?_; intro v2 x2 hown2 hb2 _; simp only [List.nil_append] at hown2; have HO2 := hid hown2; have HB2 := hid (HB1.out.trans ((Below.alloc (Below.refl w4.heap.size x1) HB1.out.size _).trans hb2)); obtain ⟨p1, p2, p5⟩ := KC.out x2 HB2.out; clear hown2 hb2))
      all_goals
        go_wp2_with fail
        go_meet
        have hi2 := HO2.out.ints (S := Lt x2.heap.size) (fun _ _ h => h)
        obtain ⟨A8, c8, hv2⟩ := hi2.form
        subst hv2
        exact ⟨A8, _, c8, rfl, hi2, HB2.out⟩
    case rest =>
      obtain ⟨A8, l8, c8, rfl, hi8, hb5⟩ := hcut
      have HI8 := hid hi8
      have HT5 := hid (HT4.out.trans (hb5.mono HT4.out.size))
      clear hi8 hb5
      clear m0 m1 m2 m3 o0 o1 o2 o3 o4 o5 o6 o7
      obtain ⟨⟨m0, m1, m2, m3⟩, ⟨o0, o1, o2, o3, o4, o5, o6, o7⟩, hbw⟩ := KB.out wc HT5.out
      have HK5 := hid hbw
      clear hbw
      go_wp2_with fail
      refine (HAPP.out _ HK5.out).mono ?_
      intro e w6 h6
      obtain ⟨v6, rfl, hr6, hb6⟩ : ∃ v, e = .returned (.tuple #[.agg #[.int .i64 mk, .string mx, .int .i64 mc, v], .int .i64 0]) ∧ SliceR treeE w6 (NS (Lt w.heap.size) wc.heap.size w6) ms v ∧ Below wc.heap.size wc w6 := h6
      obtain ⟨A6, c6, rfl⟩ := hr6.form
      have HT6 := hid (HT5.out.trans (hb6.mono HT5.out.size))
      have HR6 : Hid (SliceR treeE w6 (Lt w6.heap.size) ms (.slice A6 ms.length c6)) := hr6.keep (fun _ _ => rfl) (fun q hq => by
        rcases hq with hq | hq
        · exact Nat.lt_of_lt_of_le hq (Nat.le_trans HK5.out.size hb6.size)
        · exact hq.2)
      have HI86 := hid (HI8.out.below hb6 hb6.size)
      clear hb6 hr6
      clear m0 m1 m2 m3 o0 o1 o2 o3 o4 o5 o6 o7
      go_upto_region 6 with fail
      obtain ⟨X, hX⟩ : ∃ X, w6.alloc (Obj.cells #[.int .i64 mk, .string mx, .int .i64 mc, .slice A6 ms.length c6] 24) = X := ⟨_, rfl⟩
      rw [hX]
      have hXB : Below w6.heap.size w6 X := by rw [← hX]; exact blA _ _
      have hXM : Box4 X w6.heap.size mk mx mc (.slice A6 ms.length c6) := by rw [← hX]; exact Box4.new _ _ _ _ _ _
      have hXZ : w6.heap.size < X.heap.size := by rw [← hX]; simp
      have HTX := hid (HT6.out.trans (hXB.mono HT6.out.size))
      have HRX := hid (HR6.out.below hXB hXB.size)
      have HI8X := hid (HI86.out.below hXB hXB.size)
      have KX : Hid (∀ W, Below X.heap.size X W → Box4 W w6.heap.size mk mx mc (.slice A6 ms.length c6) ∧ SliceR treeE W (Lt W.heap.size) ms (.slice A6 ms.length c6) ∧ Box4 W w.heap.size tk tx tc (.slice A ts.length cap) ∧ OpBox W (w.heap.size + 1) ⟨kind, row, at_, n, nodes, slot, old, text⟩ (.slice Ar row.length cr) (.slice An nodes.length cn) ∧ Below w.heap.size w W) := fun W hW =>
        ⟨hXM.below hW hXZ, HRX.out.below hW hW.size, KB.out W (HTX.out.trans (hW.mono HTX.out.size))⟩
      obtain ⟨_, _, _, ⟨o0, o1, o2, o3, o4, o5, o6, o7⟩, hbw⟩ := KX.out X (Below.refl _ _)
      have HKX := hid hbw
      clear hX hXB hXM hXZ hbw
      go_wp2_with fail
      refine (HBE.out _ HKX.out).mono ?_
      rintro e w7 ⟨rfl, n7, rfl⟩
      obtain ⟨_, _, _, ⟨o0, o1, o2, o3, o4, o5, o6, o7⟩, _⟩ := KX.out (X.drewN n7) (bl_dnC (Below.refl _ _))
      go_wp2_with fail
      refine (HMAP.out _ (bl_dnC (n := n7) HKX.out)).mono ?_
      rintro e w9 ⟨v9, rfl, hi9, hb9⟩
      obtain ⟨A9, c9, rfl⟩ := hi9.form
      have HT9 : Hid (Below X.heap.size X w9) := hid (ofDn hb9)
      have HK9 := hid (blCall (bl_dnC (n := n7) HKX.out) hb9)
      have HI9 := hid hi9
      generalize MP.length = MQ at *
      obtain ⟨hmq, gq, oq, rfl, q9, hcq⟩ := HQC.out _ _ _ _ hi9
      obtain ⟨gp, op_, rfl, p9⟩ := HPC.out w9 HK9.out
      have iq1 : q.length < MQ := by omega
      have iq2 : (q.length : Int) < (MQ : Int) := by omega
      have iq4 : ((MQ : Int) == 0) = false := by simp; omega
      have hwq : IntKind.i64.wrap ((MQ : Int) - 1) = (q.length : Int) := by rw [hmq, show (((q.length + 1 : Nat) : Int) - 1) = (q.length : Int) by omega]; exact IntWalk.i64_in _ (by have h9 := HI9.out.lens; rw [HQ1.out] at h9; simp at h9; unfold maxLen at h9; omega)
      obtain ⟨A10, hslq, hcutq⟩ := cut_h intE Try.underlying25 size_int (some ⟨gq, oq, none⟩) MQ c9 (q.length : Int) q.length rfl (by omega) hcq
      have HCQ : Hid (∀ W, Below w9.heap.size w9 W → IntsR W (Lt W.heap.size) q (.slice A10 q.length c9)) := fun W hW => by
        have h := hcutq _ _ _ (HI9.out.below hW hW.size)
        rw [HQ1.out, List.take_left' rfl] at h
        exact h
      clear hi9 hb9 hcutq hmq hcq
      clear o0 o1 o2 o3 o4 o5 o6 o7
      go_wp2_with fail
      go_quiet (fail)
      obtain ⟨_, _, ⟨m0, m1, m2, m3⟩, _, _⟩ := KX.out w9 HT9.out
      go_wp2_with fail
      refine (HR1.out _ (bl_dnC HK9.out)).mono ?_
      intro e w11 h11
      obtain ⟨v11, rfl, hr11, hb11⟩ : ∃ v, e = .returned (.tuple #[.agg #[.int .i64 rk, .string rx, .int .i64 rc, v], .int .i64 0]) ∧ SliceR treeE w11 (Lt w.heap.size) rs v ∧ Below w9.heap.size w9 w11 := by
        obtain ⟨v, e1, e2, e3⟩ := h11
        exact ⟨v, e1, e2, ofDn e3⟩
      obtain ⟨A11, c11, rfl⟩ := hr11.form
      have HT11 := hid (blCall HT9.out hb11)
      have HB11 := hid hb11
      have HR11 : Hid (SliceR treeE w11 (Lt w11.heap.size) rs (.slice A11 rs.length c11)) := hr11.keep (fun _ _ => rfl) (fun y hy => Nat.lt_of_lt_of_le hy (Nat.le_trans HK9.out.size hb11.size))
      clear h11 hr11 hb11 m0 m1 m2 m3 q9 p9
      go_upto_region 12 with fail
      obtain ⟨Y, hY⟩ : ∃ Y, w11.alloc (Obj.cells #[.int .i64 rk, .string rx, .int .i64 rc, .slice A11 rs.length c11] 24) = Y := ⟨_, rfl⟩
      rw [hY]
      have hYB : Below w11.heap.size w11 Y := by rw [← hY]; exact blA _ _
      have hYM : Box4 Y w11.heap.size rk rx rc (.slice A11 rs.length c11) := by rw [← hY]; exact Box4.new _ _ _ _ _ _
      have hYZ : w11.heap.size < Y.heap.size := by rw [← hY]; simp
      have HTY := hid (blCall HT11.out hYB)
      have HBY := hid (blCall HB11.out hYB)
      have HRY := hid (HR11.out.below hYB hYB.size)
      have KY : Hid (∀ W, Below Y.heap.size Y W → Box4 W w11.heap.size rk rx rc (.slice A11 rs.length c11) ∧ SliceR treeE W (Lt Y.heap.size) rs (.slice A11 rs.length c11) ∧ Box4 W w6.heap.size mk mx mc (.slice A6 ms.length c6) ∧ SliceR treeE W (Lt Y.heap.size) ms (.slice A6 ms.length c6) ∧ Below w.heap.size w W ∧ IntsR W (Lt W.heap.size) q (.slice A10 q.length c9)) := fun W hW => by
        obtain ⟨k1, _, _, _, k5⟩ := KX.out W (blCall HTY.out hW)
        obtain ⟨_, k2, _⟩ := KX.out Y HTY.out
        exact ⟨hYM.below hW hYZ, HRY.out.below hW (Nat.le_refl _), k1, k2.below hW (Nat.le_refl _), k5, HCQ.out W (blCall HBY.out hW)⟩
      obtain ⟨_, _, ⟨m0, m1, m2, m3⟩, _, _⟩ := KY.out Y (Below.refl _ _)
      have hwmy : w6.heap.size < Y.heap.size := by have h9 := cellLt m0; exact h9
      have ne9 : ¬ (Y.heap.size = w6.heap.size) := by omega
      have HNE : Hid (w11.heap.size < Y.heap.size) := hYZ
      clear hY hYB hYM hYZ hwmy
      have HS1 : Hid (∀ y, Lt Y.heap.size y → y < Y.drew.heap.size) := fun y h => h
      have HS2 : Hid (∀ y, Lt Y.heap.size y → y < (Y.alloc (Obj.cells #[.int .i64 0, .string ⟨#[]⟩, .int .i64 0, .slice none 0 0] 24)).drew.heap.size) := fun y h => Nat.lt_of_lt_of_le h (blA _ _).size
      have HD1 := hid (KY.out Y.drew (Below.refl _ _).drew)
      have HD2 := hid (KY.out (Y.alloc (Obj.cells #[.int .i64 0, .string ⟨#[]⟩, .int .i64 0, .slice none 0 0] 24)).drew (blA _ _).drew)
      have HYN : Hid (Box4 (Y.alloc (Obj.cells #[.int .i64 0, .string ⟨#[]⟩, .int .i64 0, .slice none 0 0] 24)) Y.heap.size 0 ⟨#[]⟩ 0 (.slice none 0 0) ∧ Free4 (Y.alloc (Obj.cells #[.int .i64 0, .string ⟨#[]⟩, .int .i64 0, .slice none 0 0] 24)) Y.heap.size ∧ Y.heap.size < (Y.alloc (Obj.cells #[.int .i64 0, .string ⟨#[]⟩, .int .i64 0, .slice none 0 0] 24)).heap.size) := ⟨Box4.new _ _ _ _ _ _, Free4.new _ _ _, by simp⟩
      go_wp2_with fail
      go_region_held3 (fun w' => w'.cell? ⟨w6.heap.size, 0, none⟩ = some (.int .i64 mk) ∧ w'.cell? ⟨w6.heap.size, 1, none⟩ = some (.string mx) ∧ w'.cell? ⟨w6.heap.size, 2, none⟩ = some (.int .i64 mc) ∧ w'.cell? ⟨w6.heap.size, 3, none⟩ = some (.slice A6 ms.length c6)) (go_keep) (first
        | (go_at_call 27; refine (HR2q.out _ (Lt Y.heap.size) _ _ _ _ HS1.out HD1.out.2.2.2.1 HD1.out.2.2.2.2.2).mono ?_; intro e w13 h13; obtain ⟨v13, rfl, hr13, hb13⟩ := h13; obtain ⟨A13, c13, rfl⟩ := hr13.form; have HR13 := hid hr13; have HB13 : Hid (Below Y.heap.size Y w13) := ofDrew hb13; clear hr13 hb13; obtain ⟨_, _, ⟨m0, m1, m2, m3⟩, _, _⟩ := KY.out w13 HB13.out)
        | (go_at_call 27; refine (HR2q.out _ (Lt Y.heap.size) _ _ _ _ HS2.out HD2.out.2.2.2.1 HD2.out.2.2.2.2.2).mono ?_; intro e w13 h13; obtain ⟨v13, rfl, hr13, hb13⟩ := h13; obtain ⟨A13, c13, rfl⟩ := hr13.form; have HR13 := hid hr13; have HQ13 := hid (ofDrew hb13); have HB13 := hid (blCall (blA _ _) HQ13.out); have hy := HYN.out.1.below HQ13.out HYN.out.2.2; have hyf := HYN.out.2.1.below HQ13.out HYN.out.2.2; have HYB := hid hy; obtain ⟨u0, u1, u2, u3⟩ := hy; obtain ⟨l0, l1, l2, l3⟩ := hyf; clear hr13 hb13; obtain ⟨_, _, ⟨m0, m1, m2, m3⟩, _, _⟩ := KY.out w13 HB13.out))
      · obtain ⟨Z, hZ⟩ : ∃ Z, w13.alloc (Obj.cells #[.int .i64 rk, .string rx, .int .i64 rc, .slice A13 rs.length c13] 24) = Z := ⟨_, rfl⟩
        rw [hZ]
        have hZB : Below w13.heap.size w13 Z := by rw [← hZ]; exact blA _ _
        have hZM : Box4 Z w13.heap.size rk rx rc (.slice A13 rs.length c13) := by rw [← hZ]; exact Box4.new _ _ _ _ _ _
        have hyz : Below Y.heap.size Y Z := blCall HB13.out hZB
        obtain ⟨⟨b0, b1, b2, b3⟩, hra, _, _, hbz, _⟩ := KY.out Z hyz
        have HE := hid (HEQ.out Z _ _ (hra.keep (fun _ _ => rfl) (fun y hy => Nat.lt_of_lt_of_le hy hyz.size)) (HR13.out.keep (w' := Z) (fun y hy => hZB.cell (Nat.lt_of_lt_of_le hy HB13.out.size)) (fun y hy => Nat.lt_of_lt_of_le hy hyz.size)))
        have HKZ := hid hbz
        obtain ⟨g0, g1, g2, g3⟩ := hZM
        clear hZ hZB hyz hra hbz m0 m1 m2 m3
        go_wp2_with fail
        refine HE.out.mono ?_
        rintro e w14 ⟨rfl, hb14⟩
        have HK14 := hid (blCall HKZ.out hb14)
        clear hb14
        go_wp2_with fail
        go_ret
        exact ⟨rfl, HK14.out⟩
      · obtain ⟨Z, hZ⟩ : ∃ Z, ((((w13.setCell ⟨Y.heap.size, 0, none⟩ (.int .i64 rk)).setCell ⟨Y.heap.size, 1, none⟩ (.string rx)).setCell ⟨Y.heap.size, 2, none⟩ (.int .i64 rc)).setCell ⟨Y.heap.size, 3, none⟩ (.slice A13 rs.length c13)) = Z := ⟨_, rfl⟩
        rw [hZ]
        obtain ⟨⟨g0, g1, g2, g3⟩, hZs, hZB, hZo, hZr, hZf⟩ := fourAt (o := 0) HYB.out.1 HYB.out.2.1 HYB.out.2.2.1 HYB.out.2.2.2 _ _ _ _ hZ.symm
        simp only [Nat.zero_add] at g1 g2 g3
        have hyz : Below Y.heap.size Y Z := hZB Y.heap.size Y (Nat.le_refl _) HB13.out
        obtain ⟨⟨b0, b1, b2, b3⟩, hra, _, _, hbz, _⟩ := KY.out Z hyz
        have HE := hid (HEQ.out Z _ _ (hra.keep (fun _ _ => rfl) (fun y hy => Nat.lt_of_lt_of_le hy hyz.size)) (HR13.out.keep (w' := Z) (fun y hy => hZo y (Nat.ne_of_lt hy)) (fun y hy => Nat.lt_of_lt_of_le hy hyz.size)))
        have HKZ := hid hbz
        clear hZ hZs hZB hZo hZr hZf hyz hra hbz m0 m1 m2 m3 u0 u1 u2 u3 l0 l1 l2 l3
        go_wp2_with fail
        refine HE.out.mono ?_
        rintro e w14 ⟨rfl, hb14⟩
        have HK14 := hid (blCall HKZ.out hb14)
        clear hb14
        go_wp2_with fail
        go_ret
        exact ⟨rfl, HK14.out⟩
end Go.Proofs.Yteckkamlaibjbaa
