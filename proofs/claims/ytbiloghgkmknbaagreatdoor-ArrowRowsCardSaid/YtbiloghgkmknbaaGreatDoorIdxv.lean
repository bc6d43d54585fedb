/- ref10: All, Index, Valid. -/
import Derived.Test.YtbiloghgkmknbaaGreatDoorAllRv
import Derived.Test.YtbiloghgkmknbaaGreatDoorNValv
set_option linter.unusedVariables false
set_option linter.unusedSimpArgs false
set_option maxRecDepth 100000
namespace Go.Proofs.YtbiloghgkmknbaaGreatDoor
open Go.RowKit

theorem valid_count {t : Tree} (h : validS t = true) : countS t ≤ 1000 ∧ t.kind = 1 ∧ formS t = true ∧ depthS t ≤ 24 := by
  unfold validS at h
  simp only [Bool.and_eq_true, decide_eq_true_eq, beq_iff_eq] at h
  exact ⟨by omega, h.1.1.1, h.1.1.2, by omega⟩

def AllRes (w : World) (b : Bool) (L : List (List Int)) (e : Ending) (w' : World) : Prop :=
  Below w.heap.size w w' ∧ ((b = false ∧ e = .returned (.tuple #[.slice none 0 0, .int .i64 1])) ∨ (b = true ∧ ∃ v, e = .returned (.tuple #[v, .int .i64 0]) ∧ OwnRows w' w.heap.size L v))

set_option maxHeartbeats 1000000 in
theorem rAll_any (t : Tree) (A : Option Addr) (cap : Nat) (w : World) (hv : SliceR treeE w (Lt w.heap.size) t.kids (.slice A t.kids.length cap)) (htx : t.text.size ≤ maxLen) (hct : countS t ≤ 900000) :
    Calls Tryz.prog 33 #[.agg #[.int .i64 t.kind, .string t.text, .int .i64 t.cols, .slice A t.kids.length cap]] w (AllRes w (validS t) (allS [] t)) := by
  have HB0 : Hid (Below w.heap.size w (w.alloc (Obj.cells #[.int .i64 t.kind, .string t.text, .int .i64 t.cols, .slice A t.kids.length cap] 24))) := below_allocR _ _
  have C1 : Hid (∀ W, Below w.heap.size w W → Calls Tryz.prog 31 #[.agg #[.int .i64 t.kind, .string t.text, .int .i64 t.cols, .slice A t.kids.length cap]] W fun e w' => e = .returned (.bool (validS t)) ∧ Below W.heap.size W w') := fun W hW => valid_any t A cap W (hv.below hW hW.size) htx (by omega)
  have C2 : Hid (∀ W, Below w.heap.size w W → Calls Tryz.prog 71 #[.agg #[.int .i64 t.kind, .string t.text, .int .i64 t.cols, .slice A t.kids.length cap], .slice none 0 0] W (AllPost W (allS [] t))) :=
    fun W hW => allR_any t [] A none cap 0 W (hv.below hW hW.size) (SliceR.nil_ 0 (by simp) none) (by simp; omega)
  have KB : Hid (∀ W, Below (w.alloc (Obj.cells #[.int .i64 t.kind, .string t.text, .int .i64 t.cols, .slice A t.kids.length cap] 24)).heap.size (w.alloc (Obj.cells #[.int .i64 t.kind, .string t.text, .int .i64 t.cols, .slice A t.kids.length cap] 24)) W → NBox W w.heap.size t.kind t.cols t.text (.slice A t.kids.length cap)) :=
    fun W hW => (NBox.new w t.kind t.cols t.text _).below hW (by simp)
  generalize allS [] t = L at *
  generalize validS t = b at *
  obtain ⟨tk, tx, tc, ts⟩ := t
  simp only [Tree.kind, Tree.text, Tree.cols, Tree.kids] at *
  clear hv htx hct
  cases b
  · go_enter Tryz.func33, Tryz.ntmps33
    go_wp2_with fail
    refine (C1.out _ HB0.out).mono ?_
    rintro e w1 ⟨rfl, hb1⟩
    have HB1 := hid (HB0.out.trans (hb1.mono HB0.out.size))
    clear hb1
    go_wp2_with fail
    go_ret2
    exact ⟨HB1.out, .inl ⟨rfl, rfl⟩⟩
  · go_enter Tryz.func33, Tryz.ntmps33
    go_wp2_with fail
    refine (C1.out _ HB0.out).mono ?_
    rintro e w1 ⟨rfl, hb1⟩
    have HB1 := hid (HB0.out.trans (hb1.mono HB0.out.size))
    obtain ⟨p0, p1, p2, p3⟩ := KB.out w1 hb1
    clear hb1
    go_wp2_with fail
    refine (C2.out _ HB1.out).mono ?_
    rintro e w2 ⟨v2, rfl, hr2, hb2⟩
    obtain ⟨A2, c2, rfl⟩ := hr2.rows.form
    have HR2 := hid (hr2.base HB1.out.size)
    have HB2 := hid (HB1.out.trans (hb2.mono HB1.out.size))
    clear hr2 hb2 p0 p1 p2 p3
    go_wp2_with fail
    go_ret2
    exact ⟨HB2.out, .inr ⟨rfl, _, rfl, HR2.out⟩⟩

theorem below_dn1R {B : Nat} {a w : World} (h : Below B a w) (n : Nat) : Below B a (w.drewN n) := ⟨h.os, h.tape, h.output, h.size, h.block⟩
theorem below_dnR {B : Nat} {a w : World} (h : Below B a w) (n m : Nat) : Below B a ((w.drewN n).drewN m) := ⟨h.os, h.tape, h.output, h.size, h.block⟩
/-- The index of a position among a list's. -/
def idxS (l : List (List Int)) (p : List Int) : Option Nat := l.findIdx? (fun q => decide (cmpS q p = 0))
theorem idxS_drop (l : List (List Int)) (p : List Int) {k : Nat} (h : k < l.length) (hn : idxS (l.take k) p = none) (hk : cmpS l[k] p ≠ 0) : idxS (l.take (k + 1)) p = none := by
  unfold idxS at *
  rw [List.findIdx?_eq_none_iff] at *
  intro x hx
  rw [List.take_succ_eq_append_getElem h, List.mem_append] at hx
  rcases hx with hx | hx
  · exact hn x hx
  · simp only [List.mem_singleton] at hx; subst hx; simpa using hk
theorem idxS_at (l : List (List Int)) (p : List Int) {k : Nat} (h : k < l.length) (hn : idxS (l.take k) p = none) (hk : cmpS l[k] p = 0) : idxS l p = some k := by
  unfold idxS at *
  rw [List.findIdx?_eq_none_iff] at hn
  rw [List.findIdx?_eq_some_iff_getElem]
  refine ⟨h, by simpa using hk, fun j hj => ?_⟩
  have := hn (l[j]'(by omega)) (by rw [List.mem_iff_getElem]; exact ⟨j, by simp; omega, by simp⟩)
  simpa using this
theorem idxS_isSome (t : Tree) (p : List Int) : (idxS (allS [] t) p).isSome = posIn t p := by
  rw [Bool.eq_iff_iff, ← mem_all]
  unfold idxS
  rw [List.findIdx?_isSome, List.any_eq_true]
  constructor
  · rintro ⟨q, hq, h⟩
    have : q = p := (cmpS_zero _ _).1 (by simpa using h)
    rw [← this]; exact hq
  · intro h
    exact ⟨p, h, by simp [cmpS_self]⟩

def IdxRes (w : World) (b : Bool) (L : List (List Int)) (p : List Int) (e : Ending) (w' : World) : Prop :=
  Below w.heap.size w w' ∧ ((b = false ∧ e = .returned (.tuple #[.int .i64 0, .int .i64 1])) ∨ (b = true ∧ ((idxS L p = none ∧ e = .returned (.tuple #[.int .i64 0, .int .i64 2])) ∨ ∃ i : Nat, i < L.length ∧ idxS L p = some i ∧ e = .returned (.tuple #[.int .i64 i, .int .i64 0]))))

theorem allS_le (t : Tree) (h : countS t ≤ 900000) : (allS [] t).length ≤ 2000000 := by rw [allS_len]; have := cntS_le t; omega

set_option maxHeartbeats 2000000 in
theorem rIndex_any (t : Tree) (p : List Int) (A : Option Addr) (cap : Nat) (b : Value) (w : World) (hv : SliceR treeE w (Lt w.heap.size) t.kids (.slice A t.kids.length cap)) (htx : t.text.size ≤ maxLen) (hct : countS t ≤ 900000) (hp : IntsR w (Lt w.heap.size) p b) :
    Calls Tryz.prog 65 #[.agg #[.int .i64 t.kind, .string t.text, .int .i64 t.cols, .slice A t.kids.length cap], b] w (IdxRes w (validS t) (allS [] t) p) := by
  have HB0 : Hid (Below w.heap.size w (w.alloc (Obj.cells #[.int .i64 t.kind, .string t.text, .int .i64 t.cols, .slice A t.kids.length cap] 24))) := below_allocR _ _
  have C1 := hid (rAll_any t A cap _ (hv.below HB0.out HB0.out.size) htx hct)
  have HP : Hid (∀ W, Below w.heap.size w W → IntsR W (Lt W.heap.size) p b) := fun W h => hp.below h h.size
  have HL := allS_le t hct
  obtain ⟨A', cap', rfl⟩ := hp.form
  generalize allS [] t = L at *
  generalize validS t = b at *
  obtain ⟨tk, tx, tc, ts⟩ := t
  simp only [Tree.kind, Tree.text, Tree.cols, Tree.kids] at *
  clear hv htx hct hp
  go_enter Tryz.func65, Tryz.ntmps65
  go_wp2_with fail
  refine C1.out.mono ?_
  rintro e w1 ⟨hb1, (⟨rfl, rfl⟩ | ⟨rfl, v, rfl, hr⟩)⟩
  · have HB1 := hid (HB0.out.trans (hb1.mono HB0.out.size))
    clear hb1
    go_wp2_with fail
    go_ret2
    exact ⟨HB1.out, .inl ⟨rfl, rfl⟩⟩
  · have HB1 := hid (HB0.out.trans (hb1.mono HB0.out.size))
    obtain ⟨A2, c2, rfl⟩ := hr.rows.form
    have HR := hid hr.rowsLt
    clear hb1 hr
    go_wp2_with fail
    go_loopw [8] (fun i wr => (∃ n, wr = w1.drewN n) ∧ ∃ k : Nat, k ≤ L.length ∧ i = .int .i64 k ∧ idxS (L.take k) p = none) (fun i _ => L.length - (intOf i).toNat)
    case atStart => exact ⟨⟨0, rfl⟩, 0, Nat.zero_le _, rfl, by simp [idxS]⟩
    case round =>
      obtain ⟨⟨n, rfl⟩, k, hk, rfl, hno⟩ := hrel
      have HN := hid hno
      clear hno
      rcases Nat.lt_or_ge k L.length with hlt | hge
      · obtain ⟨_, _, rs, hq, _, _, hrd, hls⟩ := HR.out
        cases hq
        obtain ⟨g, o, A3, c3, rs3, rfl, hg, q0, h5, h6, h7, h8⟩ := rows_at hrd hls hlt
        have HC : Hid (Calls Tryz.prog 99 #[.slice A3 L[k].length c3, .slice A' p.length cap'] (w1.drewN n) fun e w' => e = .returned (.int .i64 (cmpS L[k] p)) ∧ ∃ m, w' = (w1.drewN n).drewN m) :=
          compare_q L[k] p (w1.drewN n) _ _ (Lt w1.heap.size) (Lt (w1.drewN n).heap.size) (SliceR.keep (w := w1) (E := intE) ⟨_, _, rs3, rfl, h5, h6, h7, h8⟩ (fun _ _ => rfl) (fun _ h => h)) (HP.out _ (below_dn1R HB1.out n))
        have HLK : Hid (∃ z, z = L[k]) := ⟨_, rfl⟩
        clear hrd hls h7 h8
        by_cases hc : cmpS L[k] p = 0
        · have HI := hid (idxS_at L p hlt HN.out hc)
          have d0 : (cmpS L[k] p == 0) = true := by simpa using hc
          rw [hc] at HC
          clear hc d0
          go_wp2_with fail
          refine HC.out.mono ?_
          rintro e w2 ⟨rfl, m, rfl⟩
          go_wp2_with fail
          go_ret2
          refine ⟨by first | exact below_dn1R HB1.out _ | exact below_dnR HB1.out _ _, .inr ⟨rfl, .inr ⟨k, hlt, HI.out, rfl⟩⟩⟩
        · have HI := hid (idxS_drop L p hlt HN.out hc)
          have d0 : (cmpS L[k] p == 0) = false := by simpa using hc
          clear hc
          go_wp2_with fail
          refine HC.out.mono ?_
          rintro e w2 ⟨rfl, m, rfl⟩
          go_wp2_with fail
          go_roundw
          case rel => exact ⟨by first | exact ⟨_, rfl⟩ | (simp only [World.drewN_drewN]; exact ⟨_, rfl⟩), k + 1, by omega, by go_num, HI.out⟩
          case measure => simp [intOf]; omega
      · have HF : Hid (idxS L p = none) := by have := HN.out; rwa [List.take_of_length_le hge] at this
        go_wp2_with fail
        go_ret2
        exact ⟨below_dn1R HB1.out _, .inr ⟨rfl, .inl ⟨HF.out, rfl⟩⟩⟩

set_option maxHeartbeats 1000000 in
theorem rValid_any (t : Tree) (p : List Int) (A : Option Addr) (cap : Nat) (b : Value) (w : World) (hv : SliceR treeE w (Lt w.heap.size) t.kids (.slice A t.kids.length cap)) (htx : t.text.size ≤ maxLen) (hct : countS t ≤ 900000) (hp : IntsR w (Lt w.heap.size) p b) :
    Calls Tryz.prog 42 #[.agg #[.int .i64 t.kind, .string t.text, .int .i64 t.cols, .slice A t.kids.length cap], b] w fun e w' => e = .returned (.bool (validS t && posIn t p)) ∧ Below w.heap.size w w' := by
  have HB0 : Hid (Below w.heap.size w (w.alloc (Obj.cells #[.int .i64 t.kind, .string t.text, .int .i64 t.cols, .slice A t.kids.length cap] 24))) := below_allocR _ _
  have C1 := hid (rIndex_any t p A cap b _ (hv.below HB0.out HB0.out.size) htx hct (hp.below HB0.out HB0.out.size))
  have HS := hid (idxS_isSome t p)
  obtain ⟨A', cap', rfl⟩ := hp.form
  generalize posIn t p = b2 at *
  generalize allS [] t = L at *
  generalize validS t = b at *
  obtain ⟨tk, tx, tc, ts⟩ := t
  simp only [Tree.kind, Tree.text, Tree.cols, Tree.kids] at *
  clear hv htx hct hp
  go_enter Tryz.func42, Tryz.ntmps42
  go_wp2_with fail
  refine C1.out.mono ?_
  rintro e w1 ⟨hb1, (⟨rfl, rfl⟩ | ⟨rfl, (⟨h1, rfl⟩ | ⟨i, h0, h1, rfl⟩)⟩)⟩
  · have HB1 := hid (HB0.out.trans (hb1.mono HB0.out.size))
    clear hb1
    go_wp2_with fail
    go_ret
    exact ⟨rfl, HB1.out⟩
  · have HB1 := hid (HB0.out.trans (hb1.mono HB0.out.size))
    have HF : Hid (b2 = false) := by show _ = _; rw [← HS.out, h1]; rfl
    clear hb1 h1
    go_wp2_with fail
    go_ret
    exact ⟨by rw [HF.out]; rfl, HB1.out⟩
  · have HB1 := hid (HB0.out.trans (hb1.mono HB0.out.size))
    have HF : Hid (b2 = true) := by show _ = _; rw [← HS.out, h1]; rfl
    clear hb1 h1 h0
    go_wp2_with fail
    go_ret
    exact ⟨by rw [HF.out]; rfl, HB1.out⟩
end Go.Proofs.YtbiloghgkmknbaaGreatDoor
