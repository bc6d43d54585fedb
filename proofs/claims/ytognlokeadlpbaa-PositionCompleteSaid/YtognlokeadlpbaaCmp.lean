/- slices.Compare, cmp.Compare, position.Compare. -/
import Derived.Test.YtognlokeadlpbaaInts
set_option linter.unusedVariables false
set_option linter.unusedSimpArgs false
namespace Go.Proofs.Ytognlokeadlpbaa
open Go.RowKit

def icmp (a b : Int) : Int := if a < b then -1 else if b < a then 1 else 0
theorem isNaN_q (a : Int) (w : World) : Calls Try.prog 95 #[.int .i64 a] w fun e w' => e = .returned (.bool false) ∧ w = w' := by
  go_enter Try.func95, Try.ntmps95
  go_wp2
  go_ret
  exact ⟨by simp, rfl⟩
set_option maxHeartbeats 1000000 in
theorem ccmp_q (a b : Int) (w : World) : Calls Try.prog 81 #[.int .i64 a, .int .i64 b] w fun e w' => e = .returned (.int .i64 (icmp a b)) ∧ w = w' := by
  by_cases h1 : a < b
  · have HF : Hid (icmp a b = -1) := by show _ = _; rw [icmp, if_pos h1]
    go_enter Try.func81, Try.ntmps81
    go_wp2_with (go_at_call 95; refine (isNaN_q _ _).mono ?_; rintro e w' ⟨rfl, rfl⟩)
    go_ret
    exact ⟨by rw [HF.out]; rfl, rfl⟩
  · by_cases h2 : b < a
    · have HF : Hid (icmp a b = 1) := by show _ = _; rw [icmp, if_neg h1, if_pos h2]
      have d1 : decide (a < b) = false := by simpa using h1
      go_enter Try.func81, Try.ntmps81
      go_wp2_with (go_at_call 95; refine (isNaN_q _ _).mono ?_; rintro e w' ⟨rfl, rfl⟩)
      go_ret
      exact ⟨by rw [HF.out]; rfl, rfl⟩
    · have HF : Hid (icmp a b = 0) := by show _ = _; rw [icmp, if_neg h1, if_neg h2]
      have d1 : decide (a < b) = false := by simpa using h1
      have d2 : decide (b < a) = false := by simpa using h2
      go_enter Try.func81, Try.ntmps81
      go_wp2_with (go_at_call 95; refine (isNaN_q _ _).mono ?_; rintro e w' ⟨rfl, rfl⟩)
      go_ret
      exact ⟨by rw [HF.out]; rfl, rfl⟩

theorem cmpS_ne {a b : Int} {l r : List Int} (h : icmp a b ≠ 0) : cmpS (a :: l) (b :: r) = icmp a b := by
  unfold icmp at *; rw [cmpS]; split <;> simp_all
theorem cmpS_eq {a b : Int} {l r : List Int} (h : icmp a b = 0) : cmpS (a :: l) (b :: r) = cmpS l r := by
  unfold icmp at h; rw [cmpS]
  by_cases h1 : a < b
  · rw [if_pos h1] at h; omega
  · by_cases h2 : b < a
    · rw [if_neg h1, if_pos h2] at h; omega
    · rw [if_neg h1, if_neg h2]
theorem icmp_range (a b : Int) : icmp a b = -1 ∨ icmp a b = 0 ∨ icmp a b = 1 := by
  unfold icmp; by_cases h1 : a < b
  · simp [h1]
  · by_cases h2 : b < a <;> simp [h1, h2]

set_option maxHeartbeats 1000000 in
theorem scmp_q (xs ys : List Int) (w : World) (a b : Value) (B B' : Nat → Prop) (ha : IntsR w B xs a) (hb : IntsR w B' ys b) :
    Calls Try.prog 63 #[a, b] w fun e w' => e = .returned (.int .i64 (cmpS xs ys)) ∧ w = w' := by
  obtain ⟨A, cap, rs, rfl, hcap, hmax, hrd, hls⟩ := ha
  obtain ⟨A', cap', rs', rfl, hcap', hmax', hrd', hls'⟩ := hb
  unfold maxLen at hmax hmax'
  have hl1 : xs.length ≤ 9223372036854775807 := by omega
  have hl2 : ys.length ≤ 9223372036854775807 := by omega
  have H : Hid ((Reads w B A rs ∧ ListR intE w B xs rs) ∧ (Reads w B' A' rs' ∧ ListR intE w B' ys rs')) := ⟨⟨hrd, hls⟩, ⟨hrd', hls'⟩⟩
  clear hrd hls hrd' hls'
  go_enter Try.func63, Try.ntmps63
  go_wp2
  go_loop [11] (fun i => ∃ (k : Nat), k ≤ xs.length ∧ k ≤ ys.length ∧ i = .int .i64 k ∧ cmpS (xs.drop k) (ys.drop k) = cmpS xs ys) (fun i => xs.length - (intOf i).toNat)
  case atStart => exact ⟨0, Nat.zero_le _, Nat.zero_le _, rfl, rfl⟩
  case round =>
    obtain ⟨k, hk, hk', rfl, hrest⟩ := hrel
    have HR := hid hrest
    clear hrest
    by_cases hx : k < xs.length
    · obtain ⟨g, o, rfl, hg, hi, c0⟩ := ints_at H.out.1.1 H.out.1.2 hx
      have i1 : (k : Int) < (xs.length : Int) := by omega
      by_cases hy : k < ys.length
      · obtain ⟨g', o', rfl, hg', hi', c0'⟩ := ints_at H.out.2.1 H.out.2.2 hy
        have i2 : (k : Int) < (ys.length : Int) := by omega
        have i3 : decide ((ys.length : Int) ≤ (k : Int)) = false := by simp; omega
        by_cases h0 : icmp xs[k] ys[k] = 0
        · have HF : Hid (cmpS (xs.drop k) (ys.drop k) = cmpS (xs.drop (k + 1)) (ys.drop (k + 1))) := by show _ = _; rw [List.drop_eq_getElem_cons hx, List.drop_eq_getElem_cons hy, cmpS_eq h0]
          go_wp2_with (go_at_call 81; refine (ccmp_q _ _ _).mono ?_; rintro e w' ⟨rfl, rfl⟩)
          go_round
          case rel => exact ⟨k + 1, by omega, by omega, by go_num, by rw [← HR.out, HF.out]⟩
          case measure => simp [intOf]; omega
        · have HF : Hid (cmpS (xs.drop k) (ys.drop k) = icmp xs[k] ys[k]) := by show _ = _; rw [List.drop_eq_getElem_cons hx, List.drop_eq_getElem_cons hy, cmpS_ne h0]
          have h1 : (!(icmp xs[k] ys[k] == 0)) = true := by simpa using h0
          have HC : Hid (∀ W, Calls Try.prog 81 #[.int .i64 xs[k], .int .i64 ys[k]] W fun e w' => e = .returned (.int .i64 (icmp xs[k] ys[k])) ∧ W = w') := fun W => ccmp_q _ _ W
          generalize icmp xs[k] ys[k] = c at *
          go_wp2_with (go_at_call 81; refine (HC.out _).mono ?_; rintro e w' ⟨rfl, rfl⟩)
          go_ret
          exact ⟨by rw [← HR.out, HF.out]; rfl, rfl⟩
      · have HF : Hid (cmpS (xs.drop k) (ys.drop k) = 1) := by show _ = _; rw [List.drop_eq_getElem_cons hx, List.drop_of_length_le (show ys.length ≤ k by omega), cmpS]
        have i3 : decide ((ys.length : Int) ≤ (k : Int)) = true := by simp; omega
        go_wp2
        go_ret
        exact ⟨by rw [← HR.out, HF.out]; rfl, rfl⟩
    · have hke : k = xs.length := by omega
      by_cases hy : k < ys.length
      · have HF : Hid (cmpS (xs.drop k) (ys.drop k) = -1) := by show _ = _; rw [List.drop_of_length_le (show xs.length ≤ k by omega), List.drop_eq_getElem_cons hy, cmpS]
        have e1 : decide ((xs.length : Int) < (ys.length : Int)) = true := by simp; omega
        clear hke
        go_wp2
        go_ret
        exact ⟨by rw [← HR.out, HF.out]; rfl, rfl⟩
      · have HF : Hid (cmpS (xs.drop k) (ys.drop k) = 0) := by show _ = _; rw [List.drop_of_length_le (show xs.length ≤ k by omega), List.drop_of_length_le (show ys.length ≤ k by omega), cmpS]
        have e1 : decide ((xs.length : Int) < (ys.length : Int)) = false := by simp; omega
        clear hke
        go_wp2
        go_ret
        exact ⟨by rw [← HR.out, HF.out]; rfl, rfl⟩

theorem pcmp_q (xs ys : List Int) (w : World) (a b : Value) (B B' : Nat → Prop) (ha : IntsR w B xs a) (hb : IntsR w B' ys b) :
    Calls Try.prog 32 #[a, b] w fun e w' => e = .returned (.int .i64 (cmpS xs ys)) ∧ w = w' := by
  have HC := hid (scmp_q xs ys w a b B B' ha hb)
  go_enter Try.func32, Try.ntmps32
  go_wp2_with (go_at_call 63; refine HC.out.mono ?_; rintro e w' ⟨rfl, rfl⟩)
  go_ret
  exact ⟨rfl, rfl⟩
end Go.Proofs.Ytognlokeadlpbaa
