/- Texts put together: Beg, KeptA. -/
import Derived.Test.YteckkamlaibjbaaInts
import Derived.Test.YteckkamlaibjbaaCuts
import Derived.Test.YteckkamlaibjbaaGA
import Derived.Test.YteckkamlaibjbaaRowL
import Derived.Test.YteckkamlaibjbaaGC
import Derived.Deep.RegionHeld3
/- law13's begins. -/
set_option linter.unusedVariables false
set_option linter.unusedSimpArgs false
set_option maxRecDepth 100000
namespace Go.Proofs.Yteckkamlaibjbaa
open Go.RowKit

def begS (l p : List Int) : Bool := decide (p.length ≤ l.length) && decide (cmpS (l.take p.length) p = 0)
theorem begins_any (l p : List Int) (A B : Option Addr) (ca cb : Nat) (w : World) (S1 S2 : Nat → Prop) (hl : IntsR w S1 l (.slice A l.length ca)) (hp : IntsR w S2 p (.slice B p.length cb)) :
    Calls Try.prog 26 #[.slice A l.length ca, .slice B p.length cb] w fun e w' => e = .returned (.bool (begS l p)) ∧ ∃ n, w' = w.drewN n := by
  have hm := hl.lens
  have hm2 := hp.lens
  unfold maxLen at hm hm2
  by_cases h1 : p.length ≤ l.length
  · have hc1 : l.length ≤ ca := by obtain ⟨_, _, _, hq, h1, _⟩ := hl; cases hq; exact h1
    obtain ⟨A1, hsl, hcut⟩ := cut_h intE Try.underlying25 size_int A l.length ca (p.length : Int) p.length rfl h1 hc1
    have hc := hcut _ _ _ hl
    have hs := same_q (l.take p.length) p w _ _ _ _ hc hp
    have hb : begS l p = decide (cmpS (l.take p.length) p = 0) := by unfold begS; simp [h1]
    rw [hb]
    have HS := hid hs
    have i0 : decide ((p.length : Int) ≤ (l.length : Int)) = true := by rw [decide_eq_true_eq]; omega
    have i1 : p.length ≤ l.length := h1
    generalize decide (cmpS (l.take p.length) p = 0) = b at *
    clear hl hp hcut hc hs hb
    go_enter Try.func26, Try.ntmps26
    go_wp2_with fail
    refine HS.out.mono ?_
    rintro e w1 ⟨rfl, n, rfl⟩
    go_wp2_with fail
    go_ret
    exact ⟨rfl, n, rfl⟩
  · have hb : begS l p = false := by unfold begS; simp [h1]
    rw [hb]
    have i0 : decide ((p.length : Int) ≤ (l.length : Int)) = false := by rw [decide_eq_false_iff_not]; omega
    have i1 : ¬ p.length ≤ l.length := h1
    clear hl hp
    go_enter Try.func26, Try.ntmps26
    go_wp2_with fail
    go_ret
    exact ⟨rfl, 0, rfl⟩
theorem begS_iff {l p : List Int} : begS l p = true ↔ p <+: l := by
  unfold begS
  simp only [Bool.and_eq_true, decide_eq_true_eq, cmpS_zero]
  constructor
  · rintro ⟨h1, h2⟩
    exact ⟨l.drop p.length, by conv => lhs; rw [← h2]; rw [List.length_take, Nat.min_eq_left h1, List.take_append_drop]⟩
  · rintro ⟨s, rfl⟩
    simp
end Go.Proofs.Yteckkamlaibjbaa
/- law13's kept: the closure at, and kept. Written by wip/geninv.py. -/
set_option linter.unusedVariables false
set_option linter.unusedSimpArgs false
set_option maxRecDepth 100000
namespace Go.Proofs.Yteckkamlaibjbaa
open Go.RowKit

set_option maxHeartbeats 4000000 in
theorem keptAt_any (row pos : List Int) (x : Int) (bp bo : Nat) (Ap Ar : Option Addr) (cp cr : Nat) (w : World) (m0 : w.cell? ⟨bp, 0, none⟩ = some (.slice Ap pos.length cp)) (m1 : w.cell? ⟨bo, 1, none⟩ = some (.slice Ar row.length cr)) (hpi : IntsR w (Lt w.heap.size) pos (.slice Ap pos.length cp)) (hr0 : IntsR w (Lt w.heap.size) row (.slice Ar row.length cr)) (hrl : row.length ≤ 100000) (hx : In64 x) :
    Calls Try.prog 42 #[.int .i64 x, .pointer (some ⟨bp, 0, none⟩), .pointer (some ⟨bo, 0, none⟩)] w fun e w' => e = .returned (.bool (decide (cmpS pos (row ++ [x]) = 0))) ∧ Below w.heap.size w w' := by
  have hbp := cellLt m0
  have hbo := cellLt m1
  simp only at hbp hbo
  have KC : Hid (∀ W, Below w.heap.size w W → W.cell? ⟨bp, 0, none⟩ = some (.slice Ap pos.length cp) ∧ W.cell? ⟨bo, 1, none⟩ = some (.slice Ar row.length cr)) := fun W h => ⟨((bcell h).1 _ _ hbp).trans m0, ((bcell h).1 _ _ hbo).trans m1⟩
  have HSM : Hid (∀ W A' c', Below w.heap.size w W → IntsR W (Lt W.heap.size) (row ++ [x]) (.slice A' (row ++ [x]).length c') → Calls Try.prog 19 #[.slice Ap pos.length cp, .slice A' (row.length + 1) c'] W fun e w' => e = .returned (.bool (decide (cmpS pos (row ++ [x]) = 0))) ∧ ∃ n, w' = W.drewN n) := fun W A' c' hW h => by
    have h2 := same_q pos (row ++ [x]) W _ _ _ _ (hpi.below hW hW.size) h
    rw [List.length_append] at h2
    exact h2
  generalize decide (cmpS pos (row ++ [x]) = 0) = R at *
  have HE1 : Hid (∀ W', W' = w.alloc (.cells #[] 3) → Owns W'.drew w.heap.size [] (.slice (some ⟨w.heap.size, 0, none⟩) 0 0) ∧ IntsR W'.drew (Lt W'.drew.heap.size) row (.slice Ar row.length cr) ∧ Below w.heap.size w W'.drew) := by
    rintro W' rfl
    have hb : Below w.heap.size w (w.alloc (.cells #[] 3)).drew := (below_allocR _ _).drew
    exact ⟨owns_empty w, hr0.below hb hb.size, hb⟩
  have HE2 : Hid (∀ W', W' = (w.alloc (.cells #[] 3)).alloc (.cells #[.int .i64 x] 3) → Owns W'.drew w.heap.size [] (.slice (some ⟨w.heap.size, 0, none⟩) 0 0) ∧ IntsR W'.drew (Lt W'.drew.heap.size) row (.slice Ar row.length cr) ∧ Below w.heap.size w W'.drew ∧ IntsR W'.drew (fun k => k = w.heap.size + 1) [x] (.slice (some ⟨w.heap.size + 1, 0, none⟩) 1 1) ∧ W'.drew.heap.size = w.heap.size + 1 + 1) := by
    rintro W' rfl
    have hb1 : Below w.heap.size w (w.alloc (.cells #[] 3)) := below_allocR _ _
    have hb : Below w.heap.size w ((w.alloc (.cells #[] 3)).alloc (.cells #[.int .i64 x] 3)).drew := (Below.alloc hb1 hb1.size _).drew
    exact ⟨(owns_empty w).below ((below_allocR _ _).drew), hr0.below hb hb.size, hb, ints_lit (w.alloc (.cells #[] 3)) [x] (by simpa using hx) (S := fun k => k = w.heap.size + 1) (by simp) _ 1 rfl rfl (by simp [maxLen]) _ _ (by simp), by simp⟩
  have HE3 : Hid (∀ W', W' = (w.alloc (.cells #[.int .i64 x] 3)).alloc (.cells #[] 3) → Owns W'.drew w.heap.size [] (.slice (some ⟨w.heap.size + 1, 0, none⟩) 0 0) ∧ IntsR W'.drew (Lt W'.drew.heap.size) row (.slice Ar row.length cr) ∧ Below w.heap.size w W'.drew ∧ IntsR W'.drew (fun k => k = w.heap.size) [x] (.slice (some ⟨w.heap.size, 0, none⟩) 1 1) ∧ W'.drew.heap.size = w.heap.size + 1 + 1) := by
    rintro W' rfl
    have hb1 : Below w.heap.size w (w.alloc (.cells #[.int .i64 x] 3)) := below_allocR _ _
    have hb : Below w.heap.size w ((w.alloc (.cells #[.int .i64 x] 3)).alloc (.cells #[] 3)).drew := (Below.alloc hb1 hb1.size _).drew
    have ho := (owns_empty (w.alloc (.cells #[.int .i64 x] 3))).base (b' := w.heap.size) (by simp)
    have hsz : (w.alloc (.cells #[.int .i64 x] 3)).heap.size = w.heap.size + 1 := by simp
    rw [hsz] at ho
    exact ⟨ho, hr0.below hb hb.size, hb, (ints_lit w [x] (by simpa using hx) (S := fun k => k = w.heap.size) rfl _ 1 rfl rfl (by simp [maxLen]) _ _ rfl).keep (fun p hp => (below_allocR (w.alloc (.cells #[.int .i64 x] 3)) (.cells #[] 3)).cell (by rw [hp]; simp)) (fun _ h => h), by simp⟩
  have HX := hid hx
  have HZ := hid hbp
  clear hpi hr0 hx hbp hbo
  go_enter Try.func42, Try.ntmps42
  go_wp2_with fail
  go_region_held3 (fun w' => w'.cell? ⟨bp, 0, none⟩ = some (.slice Ap pos.length cp) ∧ w'.cell? ⟨bo, 1, none⟩ = some (.slice Ar row.length cr)) (go_keep) (first
    | (refine step_app_intsR (by rfl) (.tmp 6) (.tmp 8) (by rfl) w.heap.size _ [] row (by rfl) (HE1.out _ rfl).1 _ _ _ _ (by rfl) (HE1.out _ rfl).2.1 (by simp; omega) (by simp) ?_; intro v1 w1 hown1 hb1 hg1; have HO1 := hid hown1; have HB1 := hid ((HE1.out _ rfl).2.2.trans hb1); obtain ⟨p1, p2⟩ := KC.out w1 HB1.out; clear hown1 hb1 hg1)
    | (refine step_app_intsR (by rfl) (.tmp 6) (.tmp 8) (by rfl) w.heap.size _ [] row (by rfl) (HE2.out _ rfl).1 _ _ _ _ (by rfl) (HE2.out _ rfl).2.1 (by simp; omega) (by simp; omega) ?_; intro v1 w1 hown1 hb1 hg1; have HL1 := hid (ints_grown (HE2.out _ rfl).2.2.2.1 hg1 (by have := (HE2.out _ rfl).2.2.2.2; omega) (by simp [Value.ownBlock])); have HO1 := hid hown1; have HB1 := hid ((HE2.out _ rfl).2.2.1.trans hb1); obtain ⟨p1, p2⟩ := KC.out w1 HB1.out; clear hown1 hb1 hg1)
    | (refine step_app_intsR (by rfl) (.tmp 6) (.tmp 8) (by rfl) w.heap.size _ [] row (by rfl) (HE3.out _ rfl).1 _ _ _ _ (by rfl) (HE3.out _ rfl).2.1 (by simp; omega) (by simp; omega) ?_; intro v1 w1 hown1 hb1 hg1; have HL1 := hid (ints_grown (HE3.out _ rfl).2.2.2.1 hg1 (by have := (HE3.out _ rfl).2.2.2.2; omega) (by simp [Value.ownBlock])); have HO1 := hid hown1; have HB1 := hid ((HE3.out _ rfl).2.2.1.trans hb1); obtain ⟨p1, p2⟩ := KC.out w1 HB1.out; clear hown1 hb1 hg1)
    | (refine step_app_intsR (by rfl) (.tmp 9) (.tmp 11) (by rfl) w.heap.size v1 ([] ++ row) [x] (by rfl) HO1.out _ _ _ _ (by rfl) HL1.out (by simp; omega) HB1.out.size ?_; intro v2 w2 hown2 hb2 _; simp only [List.nil_append] at hown2; have HI2 := hid (hown2.ints (S := Lt w2.heap.size) (fun _ _ h => h)); obtain ⟨A2, c2, rfl⟩ := HI2.out.form; have HB2 := hid (HB1.out.trans hb2); obtain ⟨p1, p2⟩ := KC.out w2 HB2.out; clear hown2 hb2)
    | (refine step_app_intsR (by rfl) (.tmp 9) (.tmp 11) (by rfl) w.heap.size v1 ([] ++ row) [x] (by rfl) (HO1.out.below (below_allocR _ _)) (Lt (w1.alloc (.cells #[.int .i64 x] 3)).heap.size) _ _ _ (by rfl) (ints_lit w1 [x] (by simpa using HX.out) (by unfold Lt; simp) _ 1 rfl rfl (by simp [maxLen]) _ _ rfl) (by simp; omega) (by have := HB1.out.size; simp; omega) ?_; intro v2 w2 hown2 hb2 _; simp only [List.nil_append] at hown2; have HI2 := hid (hown2.ints (S := Lt w2.heap.size) (fun _ _ h => h)); obtain ⟨A2, c2, rfl⟩ := HI2.out.form; have HB2 := hid (HB1.out.trans ((Below.alloc (Below.refl w.heap.size w1) HB1.out.size _).trans hb2)); obtain ⟨p1, p2⟩ := KC.out w2 HB2.out; clear hown2 hb2)
    | (go_at_call 19; refine (HSM.out w2 A2 c2 HB2.out HI2.out).mono ?_; rintro e w3 ⟨rfl, n3, rfl⟩))
  all_goals
    go_wp2_with fail
    go_ret
    exact ⟨rfl, bl_dnC HB2.out⟩
end Go.Proofs.Yteckkamlaibjbaa
