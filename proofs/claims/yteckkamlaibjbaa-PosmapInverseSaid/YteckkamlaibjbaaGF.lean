/- Texts put together: ValP, IdxR, PVal. -/
import Derived.Test.YteckkamlaibjbaaGE
import Derived.Test.YteckkamlaibjbaaAplv
import Derived.Test.YteckkamlaibjbaaAllR
import Derived.Test.YteckkamlaibjbaaNode6b
import Derived.Test.YteckkamlaibjbaaGD
import Derived.Test.YteckkamlaibjbaaGH
/- Plain: the images of the positions behind an operation that could be applied. -/
set_option linter.unusedVariables false
set_option linter.unusedSimpArgs false
namespace Go.Proofs.Yteckkamlaibjbaa
open Go.RowKit

theorem cmp_out_l : (row p x y : List Int) → ¬ row <+: p → (cmpS p (row ++ x) ≤ 0 ↔ cmpS p (row ++ y) ≤ 0)
  | [], p, x, y, h => absurd List.nil_prefix h
  | a :: row, [], x, y, h => by simp [cmpS]
  | a :: row, b :: p, x, y, h => by
    simp only [List.cons_append, cmp_cons]
    by_cases hb : b = a
    · subst hb
      have := cmp_out_l row p x y (fun hp => h (by obtain ⟨s, rfl⟩ := hp; exact ⟨s, rfl⟩))
      rw [this]
    · simp [hb]
theorem cmp_out_r : (row p x y : List Int) → ¬ row <+: p → (cmpS (row ++ x) p ≤ 0 ↔ cmpS (row ++ y) p ≤ 0)
  | [], p, x, y, h => absurd List.nil_prefix h
  | a :: row, [], x, y, h => by simp [cmpS]
  | a :: row, b :: p, x, y, h => by
    simp only [List.cons_append, cmp_cons]
    by_cases hb : a = b
    · subst hb
      have := cmp_out_r row p x y (fun hp => h (by obtain ⟨s, rfl⟩ := hp; exact ⟨s, rfl⟩))
      rw [this]
    · simp [hb]
theorem suf_in {l l' : List Tree} {op : OpD} {a : Nat} (hd : Done l l' op a) (q : List Int) (after : Bool) (h : posIn (rowT l) q = true) : posIn (rowT l') (sufS op after q) = true := by
  match q with
  | [] => simp [posIn] at h
  | [o] => exact flat_in hd o after h
  | [i, s] => have := posIn_odd _ _ h; simp at this
  | i :: s :: y :: r => exact deep_in hd i s y r h
theorem inKid_of {l l' : List Tree} {op : OpD} {a : Nat} (hd : Done l l' op a) (q : List Int) (h : posIn (rowT l) q = true) : inKid op q := by
  match q with
  | [] => trivial
  | [o] => trivial
  | [i, s] => trivial
  | i :: s :: y :: r =>
    intro hk hi hs
    obtain ⟨i', rfl⟩ := row_nonneg h
    obtain ⟨h1, h2, h3⟩ := (row_deep _ _ _ _).1 h
    have hat := hd.at_
    obtain ⟨_, _, hlen, _⟩ := hd.unw hk
    have hia : i' = a := by omega
    subst hia
    subst hs
    have hq2 : posIn (rowT (kidS (itemD l i') op.slot).kids) (y :: r) = true := by
      rw [← posIn_kids (kidS (itemD l i') op.slot) (rowT (kidS (itemD l i') op.slot).kids) rfl]; exact h3
    cases r with
    | nil =>
      obtain ⟨h3, h4⟩ := (row_one _ _).1 hq2
      exact ⟨h3, by omega, fun h => absurd rfl h⟩
    | cons z r =>
      obtain ⟨y', rfl⟩ := row_nonneg hq2
      obtain ⟨h3, _, _⟩ := (row_deep _ _ _ _).1 hq2
      exact ⟨by omega, by omega, fun _ => by omega⟩
theorem suf_ord {l l' : List Tree} {op : OpD} {a : Nat} (hd : Done l l' op a) (q q' : List Int) (after : Bool) (h : posIn (rowT l) q = true) (h' : posIn (rowT l) q' = true) (hc : cmpS q q' ≤ 0) : cmpS (sufS op after q) (sufS op after q') ≤ 0 := by
  have k := inKid_of hd q h
  have k' := inKid_of hd q' h'
  have ho : OrdOk op := ⟨hd.n⟩
  match q, q' with
  | [], _ => simp [posIn] at h
  | _, [] => simp [posIn] at h'
  | [i, s], _ => have := posIn_odd _ _ h; simp at this
  | _, [i, s] => have := posIn_odd _ _ h'; simp at this
  | [x], [y] => exact ord_ff op ho x y after hc
  | [x], i :: s :: y :: r => exact ord_fd op ho x i s y r after k' hc
  | i :: s :: y :: r, [x] => exact ord_df op ho x i s y r after k hc
  | i :: s :: y :: r, i' :: s' :: y' :: r' => exact ord_dd op ho i s y i' s' y' r r' k k' hc

theorem apply_ok {t m : Tree} {op : OpD} (h : applyS t op = (m, 0)) : validS t = true ∧ validS m = true ∧ (findS t op.row).2 = true ∧ formedS op = true ∧ ∃ l' a, m = putS t op.row l' ∧ Done (findS t op.row).1.kids l' op a := by
  unfold applyS at h
  split at h
  · injection h with _ h; simp at h
  rename_i h1
  split at h
  · injection h with _ h; simp at h
  rename_i h2
  split at h
  · rename_i h3; injection h with _ h; exact absurd h h3
  rename_i h3
  split at h
  · rename_i h4; injection h with _ h; exact absurd h h4
  rename_i h4
  split at h
  · injection h with _ h; simp at h
  rename_i h5
  injection h with h6 _
  have e3 : (rowRes t op.row).2 = 0 := Decidable.byContradiction h3
  have e4 : (changeS (rowRes t op.row).1.kids op).2 = 0 := Decidable.byContradiction h4
  have hv : validS t = true := by simpa using h1
  have hf : formedS op = true := by simpa using h2
  obtain ⟨f1, f2⟩ := rowRes_found hv e3
  obtain ⟨a, hd⟩ := done_of hf e4
  rw [f2] at hd
  rw [f2] at h6 h5
  exact ⟨hv, by rw [← h6]; simpa using h5, f1, hf, _, a, h6.symm, hd⟩

theorem apply_pos {t m : Tree} {op : OpD} (h : applyS t op = (m, 0)) (after : Bool) : (∀ p, posIn t p = true → posIn m (mapS op p after) = true) ∧ (∀ p p', posIn t p = true → posIn t p' = true → cmpS p p' ≤ 0 → cmpS (mapS op p after) (mapS op p' after) ≤ 0) := by
  obtain ⟨hv, hvm, hf, hfm, l', a, rfl, hd⟩ := apply_ok h
  have hin : ∀ q, posIn t (op.row ++ q) = posIn (rowT (findS t op.row).1.kids) q := fun q => by rw [posIn_find _ _ _ hf]; exact posIn_kids (findS t op.row).1 (rowT (findS t op.row).1.kids) rfl q
  have hout : ∀ p, ¬ op.row <+: p → refMapS op p after = p := fun p hp => map_out (by
    cases hw : withinS p op.row
    · rfl
    · obtain ⟨q, rfl, _⟩ := within_split hw
      exact absurd ⟨q, rfl⟩ hp) after
  constructor
  · intro p hp
    rw [map_eq]
    by_cases hpre : op.row <+: p
    · obtain ⟨q, rfl⟩ := hpre
      rw [map_suf, posIn_put_in _ _ _ _ hf]
      rw [hin] at hp
      exact suf_in hd q after hp
    · rw [hout p hpre, posIn_put_out _ _ _ _ hf hpre]
      exact hp
  · intro p p' hp hp' hc
    rw [map_eq, map_eq]
    by_cases hpre : op.row <+: p
    · obtain ⟨q, rfl⟩ := hpre
      by_cases hpre' : op.row <+: p'
      · obtain ⟨q', rfl⟩ := hpre'
        rw [map_suf, map_suf, cmpS_append]
        rw [cmpS_append] at hc
        rw [hin] at hp hp'
        exact suf_ord hd q q' after hp hp' hc
      · rw [map_suf, hout p' hpre']
        exact (cmp_out_r _ _ _ _ hpre').1 hc
    · by_cases hpre' : op.row <+: p'
      · obtain ⟨q', rfl⟩ := hpre'
        rw [map_suf, hout p hpre]
        exact (cmp_out_l _ _ _ _ hpre).1 hc
      · rw [hout p hpre, hout p' hpre']
        exact hc
end Go.Proofs.Yteckkamlaibjbaa
/- ref10: All, Index, Valid. -/
set_option linter.unusedVariables false
set_option linter.unusedSimpArgs false
set_option maxRecDepth 100000
namespace Go.Proofs.Yteckkamlaibjbaa
open Go.RowKit

def AllRes (w : World) (b : Bool) (L : List (List Int)) (e : Ending) (w' : World) : Prop :=
  Below w.heap.size w w' ∧ ((b = false ∧ e = .returned (.tuple #[.slice none 0 0, .int .i64 1])) ∨ (b = true ∧ ∃ v, e = .returned (.tuple #[v, .int .i64 0]) ∧ OwnRows w' w.heap.size L v))

set_option maxHeartbeats 1000000 in
theorem rAll_any (t : Tree) (A : Option Addr) (cap : Nat) (w : World) (hv : SliceR treeE w (Lt w.heap.size) t.kids (.slice A t.kids.length cap)) (htx : t.text.size ≤ maxLen) (hct : countS t ≤ 900000) :
    Calls Try.prog 13 #[.agg #[.int .i64 t.kind, .string t.text, .int .i64 t.cols, .slice A t.kids.length cap]] w (AllRes w (validS t) (allS [] t)) := by
  have HB0 : Hid (Below w.heap.size w (w.alloc (Obj.cells #[.int .i64 t.kind, .string t.text, .int .i64 t.cols, .slice A t.kids.length cap] 24))) := below_allocR _ _
  have C1 : Hid (∀ W, Below w.heap.size w W → Calls Try.prog 32 #[.agg #[.int .i64 t.kind, .string t.text, .int .i64 t.cols, .slice A t.kids.length cap]] W fun e w' => e = .returned (.bool (validS t)) ∧ Below W.heap.size W w') := fun W hW => valid_any t A cap W (hv.below hW hW.size) htx (by omega)
  have C2 : Hid (∀ W, Below w.heap.size w W → Calls Try.prog 36 #[.agg #[.int .i64 t.kind, .string t.text, .int .i64 t.cols, .slice A t.kids.length cap], .slice none 0 0] W (AllPost W (allS [] t))) :=
    fun W hW => allR_any t [] A none cap 0 W (hv.below hW hW.size) (SliceR.nil_ 0 (by simp) none) (by simp; omega)
  have KB : Hid (∀ W, Below (w.alloc (Obj.cells #[.int .i64 t.kind, .string t.text, .int .i64 t.cols, .slice A t.kids.length cap] 24)).heap.size (w.alloc (Obj.cells #[.int .i64 t.kind, .string t.text, .int .i64 t.cols, .slice A t.kids.length cap] 24)) W → NBox W w.heap.size t.kind t.cols t.text (.slice A t.kids.length cap)) :=
    fun W hW => (NBox.new w t.kind t.cols t.text _).below hW (by simp)
  generalize allS [] t = L at *
  generalize validS t = b at *
  obtain ⟨tk, tx, tc, ts⟩ := t
  simp only [Tree.kind, Tree.text, Tree.cols, Tree.kids] at *
  clear hv htx hct
  cases b
  · go_enter Try.func13, Try.ntmps13
    go_wp2_with fail
    refine (C1.out _ HB0.out).mono ?_
    rintro e w1 ⟨rfl, hb1⟩
    have HB1 := hid (HB0.out.trans (hb1.mono HB0.out.size))
    clear hb1
    go_wp2_with fail
    go_ret2
    exact ⟨HB1.out, .inl ⟨rfl, rfl⟩⟩
  · go_enter Try.func13, Try.ntmps13
    go_wp2_with fail
    refine (C1.out _ HB0.out).mono ?_
    rintro e w1 ⟨rfl, hb1⟩
    have HB1 := hid (HB0.out.trans (hb1.mono HB0.out.size))
    obtain ⟨p0, p1, p2, p3⟩ := KB.out w1 hb1
    clear hb1
    go_wp2_with fail
    refine (C2.out _ HB1.out).mono ?_
    rintro e w2 ⟨v2, rfl, hr2, hb2⟩
    obtain ⟨A2, c2, rfl⟩ := hr2.rows.form
    have HR2 := hid (hr2.base HB1.out.size)
    have HB2 := hid (HB1.out.trans (hb2.mono HB1.out.size))
    clear hr2 hb2 p0 p1 p2 p3
    go_wp2_with fail
    go_ret2
    exact ⟨HB2.out, .inr ⟨rfl, _, rfl, HR2.out⟩⟩

theorem below_dn1R {B : Nat} {a w : World} (h : Below B a w) (n : Nat) : Below B a (w.drewN n) := ⟨h.os, h.tape, h.output, h.size, h.block⟩
theorem below_dnR {B : Nat} {a w : World} (h : Below B a w) (n m : Nat) : Below B a ((w.drewN n).drewN m) := ⟨h.os, h.tape, h.output, h.size, h.block⟩
/-- The index of a position among a list's. -/
def idxS (l : List (List Int)) (p : List Int) : Option Nat := l.findIdx? (fun q => decide (cmpS q p = 0))
theorem idxS_drop (l : List (List Int)) (p : List Int) {k : Nat} (h : k < l.length) (hn : idxS (l.take k) p = none) (hk : cmpS l[k] p ≠ 0) : idxS (l.take (k + 1)) p = none := by
  unfold idxS at *
  rw [List.findIdx?_eq_none_iff] at *
  intro x hx
  rw [List.take_succ_eq_append_getElem h, List.mem_append] at hx
  rcases hx with hx | hx
  · exact hn x hx
  · simp only [List.mem_singleton] at hx; subst hx; simpa using hk
theorem idxS_at (l : List (List Int)) (p : List Int) {k : Nat} (h : k < l.length) (hn : idxS (l.take k) p = none) (hk : cmpS l[k] p = 0) : idxS l p = some k := by
  unfold idxS at *
  rw [List.findIdx?_eq_none_iff] at hn
  rw [List.findIdx?_eq_some_iff_getElem]
  refine ⟨h, by simpa using hk, fun j hj => ?_⟩
  have := hn (l[j]'(by omega)) (by rw [List.mem_iff_getElem]; exact ⟨j, by simp; omega, by simp⟩)
  simpa using this
theorem idxS_isSome (t : Tree) (p : List Int) : (idxS (allS [] t) p).isSome = posIn t p := by
  rw [Bool.eq_iff_iff, ← mem_all]
  unfold idxS
  rw [List.findIdx?_isSome, List.any_eq_true]
  constructor
  · rintro ⟨q, hq, h⟩
    have : q = p := (cmpS_zero _ _).1 (by simpa using h)
    rw [← this]; exact hq
  · intro h
    exact ⟨p, h, by simp [cmpS_self]⟩

def IdxRes (w : World) (b : Bool) (L : List (List Int)) (p : List Int) (e : Ending) (w' : World) : Prop :=
  Below w.heap.size w w' ∧ ((b = false ∧ e = .returned (.tuple #[.int .i64 0, .int .i64 1])) ∨ (b = true ∧ ((idxS L p = none ∧ e = .returned (.tuple #[.int .i64 0, .int .i64 2])) ∨ ∃ i : Nat, i < L.length ∧ idxS L p = some i ∧ e = .returned (.tuple #[.int .i64 i, .int .i64 0]))))

theorem allS_le (t : Tree) (h : countS t ≤ 900000) : (allS [] t).length ≤ 2000000 := by rw [allS_len]; have := cntS_le t; omega

set_option maxHeartbeats 2000000 in
theorem rIndex_any (t : Tree) (p : List Int) (A : Option Addr) (cap : Nat) (b : Value) (w : World) (hv : SliceR treeE w (Lt w.heap.size) t.kids (.slice A t.kids.length cap)) (htx : t.text.size ≤ maxLen) (hct : countS t ≤ 900000) (hp : IntsR w (Lt w.heap.size) p b) :
    Calls Try.prog 41 #[.agg #[.int .i64 t.kind, .string t.text, .int .i64 t.cols, .slice A t.kids.length cap], b] w (IdxRes w (validS t) (allS [] t) p) := by
  have HB0 : Hid (Below w.heap.size w (w.alloc (Obj.cells #[.int .i64 t.kind, .string t.text, .int .i64 t.cols, .slice A t.kids.length cap] 24))) := below_allocR _ _
  have C1 := hid (rAll_any t A cap _ (hv.below HB0.out HB0.out.size) htx hct)
  have HP : Hid (∀ W, Below w.heap.size w W → IntsR W (Lt W.heap.size) p b) := fun W h => hp.below h h.size
  have HL := allS_le t hct
  obtain ⟨A', cap', rfl⟩ := hp.form
  generalize allS [] t = L at *
  generalize validS t = b at *
  obtain ⟨tk, tx, tc, ts⟩ := t
  simp only [Tree.kind, Tree.text, Tree.cols, Tree.kids] at *
  clear hv htx hct hp
  go_enter Try.func41, Try.ntmps41
  go_wp2_with fail
  refine C1.out.mono ?_
  rintro e w1 ⟨hb1, (⟨rfl, rfl⟩ | ⟨rfl, v, rfl, hr⟩)⟩
  · have HB1 := hid (HB0.out.trans (hb1.mono HB0.out.size))
    clear hb1
    go_wp2_with fail
    go_ret2
    exact ⟨HB1.out, .inl ⟨rfl, rfl⟩⟩
  · have HB1 := hid (HB0.out.trans (hb1.mono HB0.out.size))
    obtain ⟨A2, c2, rfl⟩ := hr.rows.form
    have HR := hid hr.rowsLt
    clear hb1 hr
    go_wp2_with fail
    go_loopw [8] (fun i wr => (∃ n, wr = w1.drewN n) ∧ ∃ k : Nat, k ≤ L.length ∧ i = .int .i64 k ∧ idxS (L.take k) p = none) (fun i _ => L.length - (intOf i).toNat)
    case atStart => exact ⟨⟨0, rfl⟩, 0, Nat.zero_le _, rfl, by simp [idxS]⟩
    case round =>
      obtain ⟨⟨n, rfl⟩, k, hk, rfl, hno⟩ := hrel
      have HN := hid hno
      clear hno
      rcases Nat.lt_or_ge k L.length with hlt | hge
      · obtain ⟨_, _, rs, hq, _, _, hrd, hls⟩ := HR.out
        cases hq
        obtain ⟨g, o, A3, c3, rs3, rfl, hg, q0, h5, h6, h7, h8⟩ := rows_at hrd hls hlt
        have HC : Hid (Calls Try.prog 16 #[.slice A3 L[k].length c3, .slice A' p.length cap'] (w1.drewN n) fun e w' => e = .returned (.int .i64 (cmpS L[k] p)) ∧ ∃ m, w' = (w1.drewN n).drewN m) :=
          compare_q L[k] p (w1.drewN n) _ _ (Lt w1.heap.size) (Lt (w1.drewN n).heap.size) (SliceR.keep (w := w1) (E := intE) ⟨_, _, rs3, rfl, h5, h6, h7, h8⟩ (fun _ _ => rfl) (fun _ h => h)) (HP.out _ (below_dn1R HB1.out n))
        have HLK : Hid (∃ z, z = L[k]) := ⟨_, rfl⟩
        clear hrd hls h7 h8
        by_cases hc : cmpS L[k] p = 0
        · have HI := hid (idxS_at L p hlt HN.out hc)
          have d0 : (cmpS L[k] p == 0) = true := by simpa using hc
          rw [hc] at HC
          clear hc d0
          go_wp2_with fail
          refine HC.out.mono ?_
          rintro e w2 ⟨rfl, m, rfl⟩
          go_wp2_with fail
          go_ret2
          refine ⟨by first | exact below_dn1R HB1.out _ | exact below_dnR HB1.out _ _, .inr ⟨rfl, .inr ⟨k, hlt, HI.out, rfl⟩⟩⟩
        · have HI := hid (idxS_drop L p hlt HN.out hc)
          have d0 : (cmpS L[k] p == 0) = false := by simpa using hc
          clear hc
          go_wp2_with fail
          refine HC.out.mono ?_
          rintro e w2 ⟨rfl, m, rfl⟩
          go_wp2_with fail
          go_roundw
          case rel => exact ⟨by first | exact ⟨_, rfl⟩ | (simp only [World.drewN_drewN]; exact ⟨_, rfl⟩), k + 1, by omega, by go_num, HI.out⟩
          case measure => simp [intOf]; omega
      · have HF : Hid (idxS L p = none) := by have := HN.out; rwa [List.take_of_length_le hge] at this
        go_wp2_with fail
        go_ret2
        exact ⟨below_dn1R HB1.out _, .inr ⟨rfl, .inl ⟨HF.out, rfl⟩⟩⟩

set_option maxHeartbeats 1000000 in
theorem rValid_any (t : Tree) (p : List Int) (A : Option Addr) (cap : Nat) (b : Value) (w : World) (hv : SliceR treeE w (Lt w.heap.size) t.kids (.slice A t.kids.length cap)) (htx : t.text.size ≤ maxLen) (hct : countS t ≤ 900000) (hp : IntsR w (Lt w.heap.size) p b) :
    Calls Try.prog 15 #[.agg #[.int .i64 t.kind, .string t.text, .int .i64 t.cols, .slice A t.kids.length cap], b] w fun e w' => e = .returned (.bool (validS t && posIn t p)) ∧ Below w.heap.size w w' := by
  have HB0 : Hid (Below w.heap.size w (w.alloc (Obj.cells #[.int .i64 t.kind, .string t.text, .int .i64 t.cols, .slice A t.kids.length cap] 24))) := below_allocR _ _
  have C1 := hid (rIndex_any t p A cap b _ (hv.below HB0.out HB0.out.size) htx hct (hp.below HB0.out HB0.out.size))
  have HS := hid (idxS_isSome t p)
  obtain ⟨A', cap', rfl⟩ := hp.form
  generalize posIn t p = b2 at *
  generalize allS [] t = L at *
  generalize validS t = b at *
  obtain ⟨tk, tx, tc, ts⟩ := t
  simp only [Tree.kind, Tree.text, Tree.cols, Tree.kids] at *
  clear hv htx hct hp
  go_enter Try.func15, Try.ntmps15
  go_wp2_with fail
  refine C1.out.mono ?_
  rintro e w1 ⟨hb1, (⟨rfl, rfl⟩ | ⟨rfl, (⟨h1, rfl⟩ | ⟨i, h0, h1, rfl⟩)⟩)⟩
  · have HB1 := hid (HB0.out.trans (hb1.mono HB0.out.size))
    clear hb1
    go_wp2_with fail
    go_ret
    exact ⟨rfl, HB1.out⟩
  · have HB1 := hid (HB0.out.trans (hb1.mono HB0.out.size))
    have HF : Hid (b2 = false) := by show _ = _; rw [← HS.out, h1]; rfl
    clear hb1 h1
    go_wp2_with fail
    go_ret
    exact ⟨by rw [HF.out]; rfl, HB1.out⟩
  · have HB1 := hid (HB0.out.trans (hb1.mono HB0.out.size))
    have HF : Hid (b2 = true) := by show _ = _; rw [← HS.out, h1]; rfl
    clear hb1 h1 h0
    go_wp2_with fail
    go_ret
    exact ⟨by rw [HF.out]; rfl, HB1.out⟩
end Go.Proofs.Yteckkamlaibjbaa
/- vinculumlaw13.PosmapValid: the walk. -/
set_option linter.unusedVariables false
set_option linter.unusedSimpArgs false
set_option maxRecDepth 100000
namespace Go.Proofs.Yteckkamlaibjbaa
open Go.RowKit

mutual
theorem leftS_count : (t : Tree) → (m : Int) → 0 ≤ leftS t m → leftS t m = m - countS t
  | .mk _ _ _ ts, m, h => by
    rw [leftS] at h ⊢
    rw [countS, leftsS_count ts (m - 1) h]; omega
theorem leftsS_count : (ts : List Tree) → (m : Int) → 0 ≤ leftsS ts m → leftsS ts m = m - countsS ts
  | [], m, h => by rw [leftsS, countsS]; omega
  | t :: ts, m, h => by
    rw [leftsS] at h ⊢
    split at h
    · rename_i h0
      rw [if_pos h0]
      have h1 := leftsS_count ts (leftS t m) h
      have h2 := leftS_count t m (by omega)
      rw [h1, h2, countsS]; omega
    · rename_i h0; omega
end
theorem few_count {t : Tree} {m : Int} (h : fewS t m = true) : (countS t : Int) ≤ m := by
  unfold fewS at h
  have h' : 0 ≤ leftS t m := by simpa using h
  have := leftS_count t m h'
  omega

/-- The image of the position before. -/
def lastS (op : OpD) (L : List (List Int)) (after : Bool) : Nat → List Int
  | 0 => []
  | k + 1 => mapS op (L.getD k []) after
theorem last_step {op : OpD} {L : List (List Int)} {after : Bool} {k : Nat} (h : k < L.length) : lastS op L after (k + 1) = mapS op L[k] after := by
  show mapS op (L.getD k []) after = _
  rw [List.getD_eq_getElem?_getD, List.getElem?_eq_getElem h]; rfl
/-- What the law asks of every position. -/
theorem each_pos {t m : Tree} {op : OpD} (h : applyS t op = (m, 0)) (hc : countS t ≤ 900000) (after : Bool) : ∀ (k : Nat) (hk : k < (allS [] t).length), posIn m (mapS op (allS [] t)[k] after) = true ∧ cmpS (lastS op (allS [] t) after k) (mapS op (allS [] t)[k] after) ≤ 0 ∧ (allS [] t)[k].length ≤ 1000 ∧ ∀ x ∈ (allS [] t)[k], 0 ≤ x ∧ x ≤ 1000 := by
  intro k hk
  obtain ⟨hv, _⟩ := apply_ok h
  obtain ⟨h1, h2⟩ := apply_pos h after
  have hp : ∀ j (hj : j < (allS [] t).length), posIn t (allS [] t)[j] = true := fun j hj => mem_all.1 (List.getElem_mem hj)
  obtain ⟨hc1, _, _, hd⟩ := valid_count hv
  have hb := posIn_bd t _ (hp k hk)
  refine ⟨h1 _ (hp k hk), ?_, by omega, fun x hx => ⟨(hb.2 x hx).1, by have := (hb.2 x hx).2; omega⟩⟩
  cases k with
  | zero => exact cmp_nil _
  | succ j =>
    rw [last_step (by omega)]
    refine h2 _ _ (hp j (by omega)) (hp (j + 1) hk) ?_
    have := List.pairwise_iff_getElem.1 (allS_sorted [] t) j (j + 1) (by omega) hk (by omega)
    unfold ltS at this
    omega

set_option maxHeartbeats 8000000 in
theorem pval_walk (t : Tree) (op : OpD) (after : Bool) (A Ar An : Option Addr) (cap cr cn : Nat) (w : World) (hv : TreesS w (Lt w.heap.size) t.kids (.slice A t.kids.length cap)) (hok : NodeOk t) (ho : OpIn w op Ar An cr cn) :
    Calls Try.prog 3 #[.agg #[.int .i64 t.kind, .string t.text, .int .i64 t.cols, .slice A t.kids.length cap], .agg (opC op (.slice Ar op.row.length cr) (.slice An op.nodes.length cn)), .bool after] w fun e w' => e = .returned (.bool true) ∧ Below w.heap.size w w' := by
  have HFEW : Hid (∀ W, Below w.heap.size w W → Calls Try.prog 10 #[.agg #[.int .i64 t.kind, .string t.text, .int .i64 t.cols, .slice A t.kids.length cap], .slice none 0 0, .slice (some ⟨W.heap.size, 0, none⟩) 1 1] (W.alloc (.cells (opC op (.slice Ar op.row.length cr) (.slice An op.nodes.length cn)) 27)) fun e w' => e = .returned (.bool (few13S t [] [op])) ∧ Below W.heap.size W w') := by
    intro W hW
    have h1 : Below w.heap.size w (W.alloc (.cells (opC op (.slice Ar op.row.length cr) (.slice An op.nodes.length cn)) 27)) := hW.trans ((blA _ _).mono hW.size)
    exact (few13_any t [] [op] A none _ cap 0 1 _ (hv.below h1 h1.size) (SliceR.nil_ 0 (Nat.zero_le _) none) (op_lit W op Ar An cr cn ho.kind ho.at_ ho.n ho.slot ho.old ho.text (ho.row.below hW hW.size) (ho.nodes.below hW hW.size) _)).mono fun e w' h => ⟨h.1, (blA _ _).trans (h.2.mono (by simp))⟩
  have HF80 : Hid (∀ W, Below w.heap.size w W → Calls Try.prog 11 #[.agg #[.int .i64 t.kind, .string t.text, .int .i64 t.cols, .slice A t.kids.length cap], .int .i64 80] W fun e w' => e = .returned (.bool (fewS t 80)) ∧ Below W.heap.size W w') := fun W hW => few_any t W _ 80 (hv.below hW hW.size) (by omega) (by omega)
  generalize hW0 : (w.alloc (Obj.cells #[.int .i64 t.kind, .string t.text, .int .i64 t.cols, .slice A t.kids.length cap] 24)).alloc (Obj.cells (opC op (.slice Ar op.row.length cr) (.slice An op.nodes.length cn)) 27) = W0
  have hz0 : W0.heap.size = w.heap.size + 1 + 1 := by rw [← hW0]; simp
  have KB : Hid (∀ W, Below W0.heap.size W0 W → Box4 W w.heap.size t.kind t.text t.cols (.slice A t.kids.length cap) ∧ OpBox W (w.heap.size + 1) op (.slice Ar op.row.length cr) (.slice An op.nodes.length cn) ∧ Below w.heap.size w W) := fun W hW => by
    have hB0 : Below w.heap.size w W0 := by rw [← hW0]; exact blAlloc (blA _ _) _
    have hbT : Box4 W0 w.heap.size t.kind t.text t.cols (.slice A t.kids.length cap) := by
      rw [← hW0]
      exact (Box4.new w _ _ _ _ _).below (blA _ _) (by simp)
    have hbP : OpBox W0 (w.heap.size + 1) op (.slice Ar op.row.length cr) (.slice An op.nodes.length cn) := by
      rw [← hW0]
      have h := OpBox.new (w.alloc (Obj.cells #[.int .i64 t.kind, .string t.text, .int .i64 t.cols, .slice A t.kids.length cap] 24)) op (.slice Ar op.row.length cr) (.slice An op.nodes.length cn) 27
      simpa using h
    exact ⟨hbT.below hW (by omega), hbP.below hW (by omega), hB0.trans (hW.mono hB0.size)⟩
  cases hf : few13S t [] [op] with
  | false =>
    rw [hf] at HFEW
    obtain ⟨tk, tx, tc, ts⟩ := t
    obtain ⟨kind, row, at_, n, nodes, slot, old, text⟩ := op
    simp only [opC, Tree.kind, Tree.text, Tree.cols, Tree.kids] at *
    clear hf ho hv hok hz0 HF80
    go_enter Try.func3, Try.ntmps3
    go_wp2_with fail
    refine (awake_any _).mono ?_
    rintro e w1 ⟨rfl, hb1⟩
    obtain ⟨⟨m0, m1, m2, m3⟩, ⟨o0, o1, o2, o3, o4, o5, o6, o7⟩, hbw⟩ := KB.out w1 hb1
    have HK1 := hid hbw
    clear hb1 hbw
    go_wp2_with fail
    refine (HFEW.out _ HK1.out).mono ?_
    rintro e w2 ⟨rfl, hb2⟩
    have HK2 := hid (blCall HK1.out hb2)
    clear hb2
    go_wp2_with fail
    refine (awake_any _).mono ?_
    rintro e w3 ⟨rfl, hb3⟩
    have HK3 := hid (blCall HK2.out hb3)
    clear hb3
    go_wp2_with fail
    go_ret
    exact ⟨rfl, HK3.out⟩
  | true =>
  rw [hf] at HFEW
  cases hf8 : fewS t 80 with
  | false =>
    rw [hf8] at HF80
    obtain ⟨tk, tx, tc, ts⟩ := t
    obtain ⟨kind, row, at_, n, nodes, slot, old, text⟩ := op
    simp only [opC, Tree.kind, Tree.text, Tree.cols, Tree.kids] at *
    clear hf hf8 ho hv hok hz0
    go_enter Try.func3, Try.ntmps3
    go_wp2_with fail
    refine (awake_any _).mono ?_
    rintro e w1 ⟨rfl, hb1⟩
    obtain ⟨⟨m0, m1, m2, m3⟩, ⟨o0, o1, o2, o3, o4, o5, o6, o7⟩, hbw⟩ := KB.out w1 hb1
    have HK1 := hid hbw
    have HT1 := hid hb1
    clear hb1 hbw
    go_wp2_with fail
    refine (HFEW.out _ HK1.out).mono ?_
    rintro e w2 ⟨rfl, hb2⟩
    have HT2 := hid (HT1.out.trans (hb2.mono HT1.out.size))
    clear hb2 m0 m1 m2 m3 o0 o1 o2 o3 o4 o5 o6 o7
    obtain ⟨⟨m0, m1, m2, m3⟩, ⟨o0, o1, o2, o3, o4, o5, o6, o7⟩, hbw⟩ := KB.out w2 HT2.out
    have HK2 := hid hbw
    clear hbw
    go_wp2_with fail
    refine (HF80.out _ HK2.out).mono ?_
    rintro e w3 ⟨rfl, hb3⟩
    have HK3 := hid (blCall HK2.out hb3)
    clear hb3
    go_wp2_with fail
    refine (awake_any _).mono ?_
    rintro e w4 ⟨rfl, hb4⟩
    have HK4 := hid (blCall HK3.out hb4)
    clear hb4
    go_wp2_with fail
    go_ret
    exact ⟨rfl, HK4.out⟩
  | true =>
  rw [hf8] at HF80
  have hsm : opSmall [] op = true := by
    unfold few13S at hf
    simp only [List.all_cons, List.all_nil, Bool.and_true, Bool.and_eq_true] at hf
    exact hf.1
  have hct : countS t ≤ 900000 := by
    have := few_count hf8
    omega
  have hfw : opFewS op = true := by unfold opSmall at hsm; simp only [Bool.and_eq_true] at hsm; exact hsm.1.1.1
  have hcn : countsS op.nodes ≤ 100 := by
    unfold opFewS at hfw
    simp only [Bool.and_eq_true] at hfw
    have h := few_count hfw.1
    have h2 : countS (.mk 1 ⟨#[]⟩ 0 op.nodes) = 1 + countsS op.nodes := rfl
    omega
  obtain ⟨hok', hrb, hrl, _⟩ := opSmall_ok hsm (Nat.le_trans (opFew_len hfw) (by omega))
  have CA : Hid (∀ W, Below w.heap.size w W → Calls Try.prog 12 #[.agg #[.int .i64 t.kind, .string t.text, .int .i64 t.cols, .slice A t.kids.length cap], .agg (opC op (.slice Ar op.row.length cr) (.slice An op.nodes.length cn))] W (ApplyP (Lt w.heap.size) W (applyS t op))) := fun W hW =>
    apply_any t op A Ar An cap cr cn W (Lt w.heap.size) (fun q hq => Nat.lt_of_lt_of_le hq hW.size) (hv.below hW (Nat.le_refl _)) hok hct ⟨ho.at_, ho.n, ho.text, by omega⟩ (ho.row.below hW hW.size) (ho.nodes.below hW (Nat.le_refl _))
  have CL : Hid (∀ W, Below w.heap.size w W → Calls Try.prog 13 #[.agg #[.int .i64 t.kind, .string t.text, .int .i64 t.cols, .slice A t.kids.length cap]] W (AllRes W (validS t) (allS [] t))) := fun W hW => rAll_any t A cap W (hv.below hW hW.size) hok.2.2 hct
  have CM : Hid (∀ (p : List Int) W Ap cp, Below w.heap.size w W → p.length ≤ 1000 → (∀ x ∈ p, 0 ≤ x ∧ x ≤ 1000) → IntsR W (Lt W.heap.size) p (.slice Ap p.length cp) → Calls Try.prog 14 #[.agg (opC op (.slice Ar op.row.length cr) (.slice An op.nodes.length cn)), .slice Ap p.length cp, .bool after] W (IntsPost W (mapS op p after))) := fun p W Ap cp hW hl hb hp =>
    map_any op p after Ar An Ap cr cn cp W hok' (ho.row.below hW hW.size) hp (by omega) (fun x hx => by have := hb x hx; unfold Bd; omega)
  obtain ⟨⟨m, er⟩, hap⟩ : ∃ r, applyS t op = r := ⟨_, rfl⟩
  rw [hap] at CA
  rcases Decidable.em (er = 0) with he | he
  case inr =>
    have i0 : (er != 0) = true := by simpa using he
    obtain ⟨tk, tx, tc, ts⟩ := t
    obtain ⟨kind, row, at_, n, nodes, slot, old, text⟩ := op
    obtain ⟨mk, mx, mc, ms⟩ := m
    simp only [opC, Tree.kind, Tree.text, Tree.cols, Tree.kids] at *
    clear hf hf8 ho hv hok hz0 hsm hct hfw hcn hok' hrb hrl hap CL CM he
    go_enter Try.func3, Try.ntmps3
    go_wp2_with fail
    refine (awake_any _).mono ?_
    rintro e w1 ⟨rfl, hb1⟩
    obtain ⟨⟨m0, m1, m2, m3⟩, ⟨o0, o1, o2, o3, o4, o5, o6, o7⟩, hbw⟩ := KB.out w1 hb1
    have HK1 := hid hbw
    have HT1 := hid hb1
    clear hb1 hbw
    go_wp2_with fail
    refine (HFEW.out _ HK1.out).mono ?_
    rintro e w2 ⟨rfl, hb2⟩
    have HT2 := hid (HT1.out.trans (hb2.mono HT1.out.size))
    clear hb2 m0 m1 m2 m3 o0 o1 o2 o3 o4 o5 o6 o7
    obtain ⟨⟨m0, m1, m2, m3⟩, ⟨o0, o1, o2, o3, o4, o5, o6, o7⟩, hbw⟩ := KB.out w2 HT2.out
    have HK2 := hid hbw
    clear hbw
    go_wp2_with fail
    refine (HF80.out _ HK2.out).mono ?_
    rintro e w3 ⟨rfl, hb3⟩
    have HT3 := hid (HT2.out.trans (hb3.mono HT2.out.size))
    clear hb3 m0 m1 m2 m3 o0 o1 o2 o3 o4 o5 o6 o7
    obtain ⟨⟨m0, m1, m2, m3⟩, ⟨o0, o1, o2, o3, o4, o5, o6, o7⟩, hbw⟩ := KB.out w3 HT3.out
    have HK3 := hid hbw
    clear hbw
    go_wp2_with fail
    refine (CA.out _ HK3.out).mono ?_
    intro e w4 h4
    obtain ⟨v4, rfl, hr4, hb4⟩ : ∃ v, e = .returned (.tuple #[.agg #[.int .i64 mk, .string mx, .int .i64 mc, v], .int .i64 er]) ∧ SliceR treeE w4 (NS (Lt w.heap.size) w3.heap.size w4) ms v ∧ Below w3.heap.size w3 w4 := h4
    obtain ⟨A4, c4, rfl⟩ := hr4.form
    have HK4 := hid (blCall HK3.out hb4)
    clear hb4 hr4 m0 m1 m2 m3 o0 o1 o2 o3 o4 o5 o6 o7
    go_wp2_with fail
    go_ret
    exact ⟨rfl, blAlloc HK4.out _⟩
  subst he
  have HE := hid (each_pos hap hct after)
  have hap' := apply_ok hap
  have hvt := hap'.1
  have hvm := hap'.2.1
  have hcm := (valid_count hvm).1
  have hmx : m.text.size ≤ maxLen := by
    obtain ⟨_, _, _, _, l', a, rfl, _⟩ := hap'
    exact (putS_ok t op.row l' hok).2.2
  have CV : Hid (∀ (q : List Int) W A' c' vq, SliceR treeE W (Lt W.heap.size) m.kids (.slice A' m.kids.length c') → posIn m q = true → IntsR W (Lt W.heap.size) q vq → Calls Try.prog 15 #[.agg #[.int .i64 m.kind, .string m.text, .int .i64 m.cols, .slice A' m.kids.length c'], vq] W fun e w' => e = .returned (.bool true) ∧ Below W.heap.size W w') := fun q W A' c' vq hm hq hi => by
    have h := rValid_any m q A' c' vq W hm hmx (by omega) hi
    rw [hvm, hq] at h
    exact h
  rw [hvt] at CL
  have HLS : Hid (∀ k (hk : k < (allS [] t).length), lastS op (allS [] t) after (k + 1) = mapS op (allS [] t)[k] after) := fun k hk => last_step hk
  have HLL := allS_le t hct
  generalize allS [] t = L at *
  obtain ⟨tk, tx, tc, ts⟩ := t
  obtain ⟨mk, mx, mc, ms⟩ := m
  have HMAP : Hid (∀ (p : List Int) W Ap cp, Below w.heap.size w W → p.length ≤ 1000 → (∀ x ∈ p, 0 ≤ x ∧ x ≤ 1000) → IntsR W (Lt W.heap.size) p (.slice Ap p.length cp) → Calls Try.prog 14 #[.agg (opC op (.slice Ar op.row.length cr) (.slice An op.nodes.length cn)), .slice Ap p.length cp, .bool after] W (IntsPost W (mapS op p after))) := CM.out
  clear CM
  generalize hmp : (fun p => mapS op p after) = MP at *
  have hmp2 : ∀ p, mapS op p after = MP p := fun p => by rw [← hmp]
  simp only [hmp2] at HE HLS HMAP
  generalize hls : lastS op L after = LS at *
  have HL0 : Hid (LS 0 = []) := by show _ = _; rw [← hls]; rfl
  obtain ⟨kind, row, at_, n, nodes, slot, old, text⟩ := op
  simp only [opC, Tree.kind, Tree.text, Tree.cols, Tree.kids] at *
  clear hf hf8 ho hv hok hz0 hsm hct hfw hcn hok' hrb hrl hap hap' hvt hvm hcm hmx hmp hmp2 hls
  go_enter Try.func3, Try.ntmps3
  go_wp2_with fail
  refine (awake_any _).mono ?_
  rintro e w1 ⟨rfl, hb1⟩
  obtain ⟨⟨m0, m1, m2, m3⟩, ⟨o0, o1, o2, o3, o4, o5, o6, o7⟩, hbw⟩ := KB.out w1 hb1
  have HK1 := hid hbw
  have HT1 := hid hb1
  clear hb1 hbw
  go_wp2_with fail
  refine (HFEW.out _ HK1.out).mono ?_
  rintro e w2 ⟨rfl, hb2⟩
  have HT2 := hid (HT1.out.trans (hb2.mono HT1.out.size))
  clear hb2 m0 m1 m2 m3 o0 o1 o2 o3 o4 o5 o6 o7
  obtain ⟨⟨m0, m1, m2, m3⟩, ⟨o0, o1, o2, o3, o4, o5, o6, o7⟩, hbw⟩ := KB.out w2 HT2.out
  have HK2 := hid hbw
  clear hbw
  go_wp2_with fail
  refine (HF80.out _ HK2.out).mono ?_
  rintro e w3 ⟨rfl, hb3⟩
  have HT3 := hid (HT2.out.trans (hb3.mono HT2.out.size))
  clear hb3 m0 m1 m2 m3 o0 o1 o2 o3 o4 o5 o6 o7
  obtain ⟨⟨m0, m1, m2, m3⟩, ⟨o0, o1, o2, o3, o4, o5, o6, o7⟩, hbw⟩ := KB.out w3 HT3.out
  have HK3 := hid hbw
  clear hbw
  go_wp2_with fail
  refine (CA.out _ HK3.out).mono ?_
  intro e w4 h4
  obtain ⟨v4, rfl, hr4, hb4⟩ : ∃ v, e = .returned (.tuple #[.agg #[.int .i64 mk, .string mx, .int .i64 mc, v], .int .i64 0]) ∧ SliceR treeE w4 (NS (Lt w.heap.size) w3.heap.size w4) ms v ∧ Below w3.heap.size w3 w4 := h4
  obtain ⟨A4, c4, rfl⟩ := hr4.form
  have HT4 := hid (HT3.out.trans (hb4.mono HT3.out.size))
  have HR4 : Hid (SliceR treeE w4 (Lt w4.heap.size) ms (.slice A4 ms.length c4)) := hr4.keep (fun _ _ => rfl) (fun q hq => by
    rcases hq with hq | hq
    · exact Nat.lt_of_lt_of_le hq (Nat.le_trans HK3.out.size hb4.size)
    · exact hq.2)
  clear hb4 hr4 m0 m1 m2 m3 o0 o1 o2 o3 o4 o5 o6 o7
  go_upto_region 6 with fail
  obtain ⟨X, hX⟩ : ∃ X, w4.alloc (Obj.cells #[.int .i64 mk, .string mx, .int .i64 mc, .slice A4 ms.length c4] 24) = X := ⟨_, rfl⟩
  rw [hX]
  have hXB : Below w4.heap.size w4 X := by rw [← hX]; exact blA _ _
  have hXM : Box4 X w4.heap.size mk mx mc (.slice A4 ms.length c4) := by rw [← hX]; exact Box4.new _ _ _ _ _ _
  have hXZ : w4.heap.size < X.heap.size := by rw [← hX]; simp
  have HTX := hid (HT4.out.trans (hXB.mono HT4.out.size))
  have HRX := hid (HR4.out.below hXB hXB.size)
  have KX : Hid (∀ W, Below X.heap.size X W → Box4 W w4.heap.size mk mx mc (.slice A4 ms.length c4) ∧ SliceR treeE W (Lt W.heap.size) ms (.slice A4 ms.length c4) ∧ Box4 W w.heap.size tk tx tc (.slice A ts.length cap) ∧ OpBox W (w.heap.size + 1) ⟨kind, row, at_, n, nodes, slot, old, text⟩ (.slice Ar row.length cr) (.slice An nodes.length cn) ∧ Below w.heap.size w W) := fun W hW =>
    ⟨hXM.below hW hXZ, HRX.out.below hW hW.size, KB.out W (HTX.out.trans (hW.mono HTX.out.size))⟩
  obtain ⟨_, _, ⟨m0, m1, m2, m3⟩, _, hbw⟩ := KX.out X (Below.refl _ _)
  have HKX := hid hbw
  clear hX hXB hXM hXZ hbw
  go_wp2_with fail
  refine (CL.out _ HKX.out).mono ?_
  rintro e w6 ⟨hb6, (⟨h, _⟩ | ⟨_, v6, rfl, hr6⟩)⟩
  case inl => cases h
  obtain ⟨A6, c6, rfl⟩ := hr6.rows.form
  have HT6 := hid hb6
  have HR6 := hid hr6.rowsLt
  clear hb6 hr6 m0 m1 m2 m3
  go_wp2_with fail
  go_loopw [11, 45] (fun v i wr => Below w6.heap.size w6 wr ∧ ∃ k : Nat, k ≤ L.length ∧ i = .int .i64 k ∧ IntsR wr (Lt wr.heap.size) (LS k) v) (fun _ i _ => L.length - (intOf i).toNat)
  case atStart => exact ⟨Below.refl _ _, 0, Nat.zero_le _, rfl, by rw [HL0.out]; exact SliceR.nil_ 0 (Nat.zero_le _) none⟩
  case round =>
    obtain ⟨hb, k, hk, rfl, hlast⟩ := hrel
    have HB := hid hb
    obtain ⟨AL, cL, rfl⟩ := hlast.form
    have HLA := hid hlast
    clear hb hlast
    rcases Nat.lt_or_ge k L.length with hlt | hge
    · obtain ⟨_, _, rs, hq, _, _, hrd, hls⟩ := HR6.out.below HB.out HB.out.size
      cases hq
      obtain ⟨g, o, A3, c3, rs3, rfl, hg, q0, h5, h6, h7, h8⟩ := rows_at hrd hls hlt
      have HP := hid (show IntsR wr (Lt wr.heap.size) L[k] (.slice A3 L[k].length c3) from ⟨_, _, rs3, rfl, h5, h6, h7, h8⟩)
      obtain ⟨e1, e2, e3, e4⟩ := HE.out k hlt
      have HE1 := hid e1
      have HE2 := hid e2
      have HE3 := hid e3
      have HE4 := hid e4
      have HNX := hid (HLS.out k hlt)
      have d0 : decide ((0 : Int) < cmpS (LS k) (MP L[k])) = false := by rw [decide_eq_false_iff_not]; omega
      have HTR := hid (HT6.out.trans (HB.out.mono HT6.out.size))
      obtain ⟨_, _, _, ⟨o0, o1, o2, o3, o4, o5, o6, o7⟩, hbw⟩ := KX.out wr HTR.out
      have HKR := hid hbw
      have i5 : decide ((k : Int) < (L.length : Int)) = true := by rw [decide_eq_true_eq]; omega
      have i6 : (0 : Int) ≤ (k : Int) := by omega
      have i7 : (k : Int) < (L.length : Int) := by omega
      clear hrd hls h5 h6 h7 h8 e1 e2 e3 e4 hbw
      generalize L[k] = pk at *
      go_wp2_with fail
      refine (HMAP.out pk wr _ _ HKR.out HE3.out HE4.out HP.out).mono ?_
      rintro e w7 ⟨v7, rfl, hi7, hb7⟩
      obtain ⟨A7, c7, rfl⟩ := hi7.form
      have HT7 := hid (HTR.out.trans (hb7.mono HTR.out.size))
      have HB7 := hid (blCall HB.out hb7)
      have HI7 := hid hi7
      have HLA7 := hid (HLA.out.below hb7 hb7.size)
      clear hb7 hi7 o0 o1 o2 o3 o4 o5 o6 o7 q0
      obtain ⟨⟨m0, m1, m2, m3⟩, hrm, _, _, _⟩ := KX.out w7 HT7.out
      have HRM := hid hrm
      clear hrm
      go_wp2_with fail
      refine (CV.out _ w7 _ _ _ HRM.out HE1.out HI7.out).mono ?_
      rintro e w8 ⟨rfl, hb8⟩
      have HB8 := hid (blCall HB7.out hb8)
      have HI8 := hid (HI7.out.below hb8 hb8.size)
      have HLA8 := hid (HLA7.out.below hb8 hb8.size)
      clear hb8 m0 m1 m2 m3
      go_wp2_with fail
      refine (compare_q _ _ w8 _ _ _ _ HLA8.out HI8.out).mono ?_
      rintro e w9 ⟨rfl, n9, rfl⟩
      go_wp2_with fail
      go_roundw
      case rel => exact ⟨bl_dnC HB8.out, k + 1, by omega, by go_num, by rw [HNX.out]; exact HI8.out.keep (fun _ _ => rfl) (fun _ h => h)⟩
      case measure => simp [intOf]; omega
    · have i5 : decide ((k : Int) < (L.length : Int)) = false := by rw [decide_eq_false_iff_not]; omega
      have HTR := hid (HT6.out.trans (HB.out.mono HT6.out.size))
      obtain ⟨_, _, _, _, hbw⟩ := KX.out wr HTR.out
      have HKR := hid hbw
      clear hbw
      go_wp2_with fail
      go_ret
      exact ⟨rfl, HKR.out⟩
end Go.Proofs.Yteckkamlaibjbaa
