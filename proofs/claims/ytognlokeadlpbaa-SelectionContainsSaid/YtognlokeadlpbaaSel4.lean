/- selection.Contains, ref11.Contains. Written by wip/gensel4.py. -/
import Derived.Test.YtognlokeadlpbaaSel2
set_option linter.unusedVariables false
set_option linter.unusedSimpArgs false
set_option maxRecDepth 100000
namespace Go.Proofs.Ytognlokeadlpbaa
open Go.RowKit

/-- A part of a row contains a position. -/
def conS (row : List Int) (from_ to_ : Int) (pos : List Int) : Bool :=
  if h : row.length < pos.length then
    (if pos.take row.length = row then (decide (from_ ≤ pos[row.length]) && (if pos.length = row.length + 1 then decide (pos[row.length] ≤ to_) else decide (pos[row.length] < to_))) else false)
  else false

set_option maxHeartbeats 2000000 in
theorem contains_any (row pos : List Int) (from_ to_ : Int) (vr vp : Value) (w : World) (hr : IntsR w (Lt w.heap.size) row vr) (hp : IntsR w (Lt w.heap.size) pos vp) (hpl : pos.length ≤ 1000000) :
    Calls Try.prog 21 #[.agg #[vr, .int .i64 from_, .int .i64 to_], vp] w fun e w' => e = .returned (.bool (conS row from_ to_ pos)) ∧ Below w.heap.size w w' := by
  obtain ⟨Ar, cr, rfl⟩ := hr.form
  obtain ⟨Ap, cp, rfl⟩ := hp.form
  have HR := hid hr
  have HP := hid hp
  have hrl : row.length ≤ 9223372036854775807 := by have := hr.lens; unfold maxLen at this; omega
  clear hr hp
  go_enter Try.func21, Try.ntmps21
  go_wp2_with fail
  generalize hW0 : w.alloc (.cells #[.slice Ar row.length cr, .int .i64 from_, .int .i64 to_] 29) = W0
  have hb0 : Below w.heap.size w W0 := by rw [← hW0]; exact below_allocR' _ _
  have m0 : W0.cell? ⟨w.heap.size, 0, none⟩ = some (.slice Ar row.length cr) := by rw [← hW0, World.cell?_alloc_new]; rfl
  have m1 : W0.cell? ⟨w.heap.size, 1, none⟩ = some (.int .i64 from_) := by rw [← hW0, World.cell?_alloc_new]; rfl
  have m2 : W0.cell? ⟨w.heap.size, 2, none⟩ = some (.int .i64 to_) := by rw [← hW0, World.cell?_alloc_new]; rfl
  have HB0 := hid hb0
  have HR0 := hid (HR.out.below hb0 hb0.size)
  have HP0 := hid (HP.out.below hb0 hb0.size)
  clear hW0 hb0 HR HP
  rcases Nat.lt_or_ge row.length pos.length with hlt | hge
  rotate_left
  · have d0 : decide ((pos.length : Int) ≤ (row.length : Int)) = true := by simp; omega
    have HF : Hid (conS row from_ to_ pos = false) := by show _ = _; unfold conS; rw [dif_neg (by omega)]
    go_quiet (fail)
    go_wp2_with fail
    go_ret
    exact ⟨by rw [HF.out]; rfl, below_dnS HB0.out _⟩
  have d0 : decide ((pos.length : Int) ≤ (row.length : Int)) = false := by simp; omega
  obtain ⟨g, o, rfl, hg, HC, hcp, _⟩ := elem_at HP0.out hlt
  have a0 := HC W0 (Below.refl _ _) row.length hlt
  obtain ⟨A3, hsl, hcut⟩ := cut_h intE Try.underlying25 size_int (some ⟨g, o, none⟩) pos.length cp (row.length : Int) row.length rfl (by omega) hcp
  have HCU := hid (hcut _ _ _ HP0.out)
  have i0 : (row.length : Int) < (pos.length : Int) := by omega
  have hpl' : (pos.length : Int) ≤ 1000000 := by omega
  have htk : (pos.take row.length).length = row.length := by simp; omega
  have HV : Hid (IntsR W0 (Lt W0.heap.size) (pos.take row.length) (.slice A3 row.length cp)) := by
    have := HCU.out
    exact this
  clear hcut HC HP0 HCU
  have HEQ : Hid (∀ m, Calls Try.prog 57 #[.slice A3 row.length cp, .slice Ar row.length cr] (W0.drewN m) fun e w' => e = .returned (.bool (decide (pos.take row.length = row))) ∧ ∃ n, w' = (W0.drewN m).drewN n) :=
    fun m => equal_q _ _ (W0.drewN m) _ _ (Lt W0.heap.size) (Lt W0.heap.size) (HV.out.keep (fun _ _ => rfl) (fun _ h => h)) (HR0.out.keep (fun _ _ => rfl) (fun _ h => h))
  by_cases heq : pos.take row.length = row
  rotate_left
  · have HF : Hid (conS row from_ to_ pos = false) := by show _ = _; unfold conS; rw [dif_pos hlt, if_neg heq]
    rw [decide_eq_false heq] at HEQ
    clear heq htk
    go_quiet (exact Calls.quiet_of (HEQ.out _))
    go_wp2_with fail
    go_ret
    exact ⟨by rw [HF.out]; rfl, below_dnS HB0.out _⟩
  rw [decide_eq_true heq] at HEQ
  have HF : Hid (conS row from_ to_ pos = (decide (from_ ≤ pos[row.length]) && (if pos.length = row.length + 1 then decide (pos[row.length] ≤ to_) else decide (pos[row.length] < to_)))) := by show _ = _; unfold conS; rw [dif_pos hlt, if_pos heq]
  clear heq htk
  generalize pos[row.length] = x at *
  by_cases h1 : pos.length = row.length + 1
  · have d1 : ((pos.length : Int) == (row.length : Int) + 1) = true := by simp; omega
    rw [if_pos h1] at HF
    clear h1
    by_cases k1 : from_ ≤ x
    · by_cases k2 : x ≤ to_
      · have e1 : decide (from_ ≤ x) = true := decide_eq_true k1
        have e2 : decide (x ≤ to_) = true := decide_eq_true k2
        rw [e1, e2] at HF
        go_quiet (exact Calls.quiet_of (HEQ.out _))
        go_wp2_with fail
        go_ret
        exact ⟨by rw [HF.out]; first | rfl | (simp; done) | (simp; omega), by first | exact below_dnS HB0.out _ | (simp only [World.drewN_drewN]; exact below_dnS HB0.out _)⟩
      · have e1 : decide (from_ ≤ x) = true := decide_eq_true k1
        have e2 : decide (x ≤ to_) = false := decide_eq_false k2
        rw [e1, e2] at HF
        go_quiet (exact Calls.quiet_of (HEQ.out _))
        go_wp2_with fail
        go_ret
        exact ⟨by rw [HF.out]; first | rfl | (simp; done) | (simp; omega), by first | exact below_dnS HB0.out _ | (simp only [World.drewN_drewN]; exact below_dnS HB0.out _)⟩
    · have e1 : decide (from_ ≤ x) = false := decide_eq_false k1
      rw [e1, Bool.false_and] at HF
      go_quiet (exact Calls.quiet_of (HEQ.out _))
      go_wp2_with fail
      go_ret
      exact ⟨by rw [HF.out]; first | rfl | (simp; done) | (simp; omega), by first | exact below_dnS HB0.out _ | (simp only [World.drewN_drewN]; exact below_dnS HB0.out _)⟩
  · have d1 : ((pos.length : Int) == (row.length : Int) + 1) = false := by simp; omega
    rw [if_neg h1] at HF
    clear h1
    by_cases k1 : from_ ≤ x
    · by_cases k2 : x < to_
      · have e1 : decide (from_ ≤ x) = true := decide_eq_true k1
        have e2 : decide (x < to_) = true := decide_eq_true k2
        rw [e1, e2] at HF
        go_quiet (exact Calls.quiet_of (HEQ.out _))
        go_wp2_with fail
        go_ret
        exact ⟨by rw [HF.out]; first | rfl | (simp; done) | (simp; omega), by first | exact below_dnS HB0.out _ | (simp only [World.drewN_drewN]; exact below_dnS HB0.out _)⟩
      · have e1 : decide (from_ ≤ x) = true := decide_eq_true k1
        have e2 : decide (x < to_) = false := decide_eq_false k2
        rw [e1, e2] at HF
        go_quiet (exact Calls.quiet_of (HEQ.out _))
        go_wp2_with fail
        go_ret
        exact ⟨by rw [HF.out]; first | rfl | (simp; done) | (simp; omega), by first | exact below_dnS HB0.out _ | (simp only [World.drewN_drewN]; exact below_dnS HB0.out _)⟩
    · have e1 : decide (from_ ≤ x) = false := decide_eq_false k1
      rw [e1, Bool.false_and] at HF
      go_quiet (exact Calls.quiet_of (HEQ.out _))
      go_wp2_with fail
      go_ret
      exact ⟨by rw [HF.out]; first | rfl | (simp; done) | (simp; omega), by first | exact below_dnS HB0.out _ | (simp only [World.drewN_drewN]; exact below_dnS HB0.out _)⟩

set_option maxHeartbeats 2000000 in
theorem rContains_any (row pos : List Int) (from_ to_ : Int) (vr vp : Value) (w : World) (hr : IntsR w (Lt w.heap.size) row vr) (hp : IntsR w (Lt w.heap.size) pos vp) (hpl : pos.length ≤ 1000000) :
    Calls Try.prog 22 #[.agg #[vr, .int .i64 from_, .int .i64 to_], vp] w fun e w' => e = .returned (.bool (conS row from_ to_ pos)) ∧ Below w.heap.size w w' := by
  obtain ⟨Ar, cr, rfl⟩ := hr.form
  obtain ⟨Ap, cp, rfl⟩ := hp.form
  have HR := hid hr
  have HP := hid hp
  have hrl : row.length ≤ 9223372036854775807 := by have := hr.lens; unfold maxLen at this; omega
  clear hr hp
  go_enter Try.func22, Try.ntmps22
  go_wp2_with fail
  generalize hW0 : w.alloc (.cells #[.slice Ar row.length cr, .int .i64 from_, .int .i64 to_] 29) = W0
  have hb0 : Below w.heap.size w W0 := by rw [← hW0]; exact below_allocR' _ _
  have m0 : W0.cell? ⟨w.heap.size, 0, none⟩ = some (.slice Ar row.length cr) := by rw [← hW0, World.cell?_alloc_new]; rfl
  have m1 : W0.cell? ⟨w.heap.size, 1, none⟩ = some (.int .i64 from_) := by rw [← hW0, World.cell?_alloc_new]; rfl
  have m2 : W0.cell? ⟨w.heap.size, 2, none⟩ = some (.int .i64 to_) := by rw [← hW0, World.cell?_alloc_new]; rfl
  have HB0 := hid hb0
  have HR0 := hid (HR.out.below hb0 hb0.size)
  have HP0 := hid (HP.out.below hb0 hb0.size)
  clear hW0 hb0 HR HP
  rcases Nat.lt_or_ge row.length pos.length with hlt | hge
  rotate_left
  · have d0 : decide ((pos.length : Int) ≤ (row.length : Int)) = true := by simp; omega
    have HF : Hid (conS row from_ to_ pos = false) := by show _ = _; unfold conS; rw [dif_neg (by omega)]
    go_quiet (fail)
    go_wp2_with fail
    go_ret
    exact ⟨by rw [HF.out]; rfl, below_dnS HB0.out _⟩
  have d0 : decide ((pos.length : Int) ≤ (row.length : Int)) = false := by simp; omega
  obtain ⟨g, o, rfl, hg, HC, hcp, _⟩ := elem_at HP0.out hlt
  have a0 := HC W0 (Below.refl _ _) row.length hlt
  obtain ⟨A3, hsl, hcut⟩ := cut_h intE Try.underlying25 size_int (some ⟨g, o, none⟩) pos.length cp (row.length : Int) row.length rfl (by omega) hcp
  have HCU := hid (hcut _ _ _ HP0.out)
  have i0 : (row.length : Int) < (pos.length : Int) := by omega
  have hpl' : (pos.length : Int) ≤ 1000000 := by omega
  have htk : (pos.take row.length).length = row.length := by simp; omega
  have HV : Hid (IntsR W0 (Lt W0.heap.size) (pos.take row.length) (.slice A3 row.length cp)) := by
    have := HCU.out
    exact this
  clear hcut HC HP0 HCU
  have HEQ : Hid (∀ m, Calls Try.prog 33 #[.slice A3 row.length cp, .slice Ar row.length cr] (W0.drewN m) fun e w' => e = .returned (.int .i64 (cmpS (pos.take row.length) row)) ∧ ∃ n, w' = (W0.drewN m).drewN n) :=
    fun m => compare_q _ _ (W0.drewN m) _ _ (Lt W0.heap.size) (Lt W0.heap.size) (HV.out.keep (fun _ _ => rfl) (fun _ h => h)) (HR0.out.keep (fun _ _ => rfl) (fun _ h => h))
  by_cases heq : pos.take row.length = row
  rotate_left
  · have HF : Hid (conS row from_ to_ pos = false) := by show _ = _; unfold conS; rw [dif_pos hlt, if_neg heq]
    have hne : cmpS (pos.take row.length) row ≠ 0 := fun h => heq ((cmpS_zero _ _).1 h)
    generalize cmpS (pos.take row.length) row = c at *
    have dn : (c != 0) = true := by simpa using hne
    clear heq htk hne
    go_quiet (exact Calls.quiet_of (HEQ.out _))
    go_wp2_with fail
    go_ret
    exact ⟨by rw [HF.out]; rfl, below_dnS HB0.out _⟩
  rw [(cmpS_zero _ _).2 heq] at HEQ
  have HF : Hid (conS row from_ to_ pos = (decide (from_ ≤ pos[row.length]) && (if pos.length = row.length + 1 then decide (pos[row.length] ≤ to_) else decide (pos[row.length] < to_)))) := by show _ = _; unfold conS; rw [dif_pos hlt, if_pos heq]
  clear heq htk
  generalize pos[row.length] = x at *
  by_cases h1 : pos.length = row.length + 1
  · have d1 : ((pos.length : Int) == (row.length : Int) + 1) = true := by simp; omega
    rw [if_pos h1] at HF
    clear h1
    by_cases k1 : from_ ≤ x
    · by_cases k2 : x ≤ to_
      · have e1 : decide (from_ ≤ x) = true := decide_eq_true k1
        have e2 : decide (x ≤ to_) = true := decide_eq_true k2
        rw [e1, e2] at HF
        go_quiet (exact Calls.quiet_of (HEQ.out _))
        go_wp2_with fail
        go_quiet (fail)
        go_wp2_with fail
        go_ret
        exact ⟨by rw [HF.out]; first | rfl | (simp; done) | (simp; omega), by first | exact below_dnS HB0.out _ | (simp only [World.drewN_drewN]; exact below_dnS HB0.out _)⟩
      · have e1 : decide (from_ ≤ x) = true := decide_eq_true k1
        have e2 : decide (x ≤ to_) = false := decide_eq_false k2
        rw [e1, e2] at HF
        go_quiet (exact Calls.quiet_of (HEQ.out _))
        go_wp2_with fail
        go_quiet (fail)
        go_wp2_with fail
        go_ret
        exact ⟨by rw [HF.out]; first | rfl | (simp; done) | (simp; omega), by first | exact below_dnS HB0.out _ | (simp only [World.drewN_drewN]; exact below_dnS HB0.out _)⟩
    · have e1 : decide (from_ ≤ x) = false := decide_eq_false k1
      rw [e1, Bool.false_and] at HF
      go_quiet (exact Calls.quiet_of (HEQ.out _))
      go_wp2_with fail
      go_quiet (fail)
      go_wp2_with fail
      go_ret
      exact ⟨by rw [HF.out]; first | rfl | (simp; done) | (simp; omega), by first | exact below_dnS HB0.out _ | (simp only [World.drewN_drewN]; exact below_dnS HB0.out _)⟩
  · have d1 : ((pos.length : Int) == (row.length : Int) + 1) = false := by simp; omega
    rw [if_neg h1] at HF
    clear h1
    by_cases k1 : from_ ≤ x
    · by_cases k2 : x < to_
      · have e1 : decide (from_ ≤ x) = true := decide_eq_true k1
        have e2 : decide (x < to_) = true := decide_eq_true k2
        rw [e1, e2] at HF
        go_quiet (exact Calls.quiet_of (HEQ.out _))
        go_wp2_with fail
        go_quiet (fail)
        go_wp2_with fail
        go_ret
        exact ⟨by rw [HF.out]; first | rfl | (simp; done) | (simp; omega), by first | exact below_dnS HB0.out _ | (simp only [World.drewN_drewN]; exact below_dnS HB0.out _)⟩
      · have e1 : decide (from_ ≤ x) = true := decide_eq_true k1
        have e2 : decide (x < to_) = false := decide_eq_false k2
        rw [e1, e2] at HF
        go_quiet (exact Calls.quiet_of (HEQ.out _))
        go_wp2_with fail
        go_quiet (fail)
        go_wp2_with fail
        go_ret
        exact ⟨by rw [HF.out]; first | rfl | (simp; done) | (simp; omega), by first | exact below_dnS HB0.out _ | (simp only [World.drewN_drewN]; exact below_dnS HB0.out _)⟩
    · have e1 : decide (from_ ≤ x) = false := decide_eq_false k1
      rw [e1, Bool.false_and] at HF
      go_quiet (exact Calls.quiet_of (HEQ.out _))
      go_wp2_with fail
      go_quiet (fail)
      go_wp2_with fail
      go_ret
      exact ⟨by rw [HF.out]; first | rfl | (simp; done) | (simp; omega), by first | exact below_dnS HB0.out _ | (simp only [World.drewN_drewN]; exact below_dnS HB0.out _)⟩
end Go.Proofs.Ytognlokeadlpbaa
