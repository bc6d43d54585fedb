/- Texts put together: Ints, Cuts, Cmp. -/
import Derived.Test.YtmahiejfniaahaaGreatDoorBasev
import Derived.Deep.QuietTactic
import Derived.BigQuiet
set_option linter.unusedVariables false
set_option linter.unusedSimpArgs false
namespace Go.Proofs.YtmahiejfniaahaaGreatDoor
open Go.RowKit
def cmpS : List Int → List Int → Int
  | [], [] => 0
  | [], _ :: _ => -1
  | _ :: _, [] => 1
  | a :: l, b :: r => if a < b then -1 else if b < a then 1 else cmpS l r
set_option maxHeartbeats 1000000 in
theorem compare_q (xs ys : List Int) (w : World) (a b : Value) (B B' : Nat → Prop) (ha : IntsR w B xs a) (hb : IntsR w B' ys b) :
    Calls Tryz.prog 99 #[a, b] w fun e w' => e = .returned (.int .i64 (cmpS xs ys)) ∧ ∃ n, w' = w.drewN n := by
  obtain ⟨A, cap, rs, rfl, hcap, hmax, hrd, hls⟩ := ha
  obtain ⟨A', cap', rs', rfl, hcap', hmax', hrd', hls'⟩ := hb
  unfold maxLen at hmax hmax'
  have hl1 : xs.length ≤ 9223372036854775807 := by omega
  have hl2 : ys.length ≤ 9223372036854775807 := by omega
  have H : Hid ((Reads w B A rs ∧ ListR intE w B xs rs) ∧ (Reads w B' A' rs' ∧ ListR intE w B' ys rs')) := ⟨⟨hrd, hls⟩, ⟨hrd', hls'⟩⟩
  clear hrd hls hrd' hls'
  go_enter Tryz.func99, Tryz.ntmps99
  go_wp2
  go_loopw [5] (fun i wr => (∃ n, wr = w.drewN n) ∧ ∃ (k : Nat), k ≤ xs.length ∧ k ≤ ys.length ∧ i = .int .i64 k ∧ cmpS (xs.drop k) (ys.drop k) = cmpS xs ys) (fun i _ => xs.length - (intOf i).toNat)
  case atStart => exact ⟨⟨0, rfl⟩, 0, Nat.zero_le _, Nat.zero_le _, rfl, rfl⟩
  case round =>
    obtain ⟨⟨n, rfl⟩, k, hk, hk', rfl, hrest⟩ := hrel
    have HR := hid hrest
    clear hrest
    by_cases hx : k < xs.length
    · by_cases hy : k < ys.length
      · obtain ⟨g, o, rfl, hg, hi, c0⟩ := ints_at H.out.1.1 H.out.1.2 hx
        obtain ⟨g', o', rfl, hg', hi', c0'⟩ := ints_at H.out.2.1 H.out.2.2 hy
        have i1 : (k : Int) < (xs.length : Int) := by omega
        have i2 : (k : Int) < (ys.length : Int) := by omega
        by_cases h1 : xs[k] < ys[k]
        · have HF : Hid (cmpS (xs.drop k) (ys.drop k) = -1) := by show _ = _; rw [List.drop_eq_getElem_cons hx, List.drop_eq_getElem_cons hy, cmpS, if_pos h1]
          go_wp2
          go_quiet (fail)
          go_wp2
          go_ret
          exact ⟨by rw [← HR.out, HF.out]; rfl, by first | exact ⟨_, rfl⟩ | (simp only [World.drewN_drewN]; exact ⟨_, rfl⟩)⟩
        · by_cases h2 : ys[k] < xs[k]
          · have HF : Hid (cmpS (xs.drop k) (ys.drop k) = 1) := by show _ = _; rw [List.drop_eq_getElem_cons hx, List.drop_eq_getElem_cons hy, cmpS, if_neg h1, if_pos h2]
            have hd : decide (xs[k] < ys[k]) = false := by simpa using h1
            go_wp2
            go_quiet (fail)
            go_wp2
            go_quiet (fail)
            go_wp2
            go_ret
            exact ⟨by rw [← HR.out, HF.out]; rfl, by first | exact ⟨_, rfl⟩ | (simp only [World.drewN_drewN]; exact ⟨_, rfl⟩)⟩
          · have HF : Hid (cmpS (xs.drop k) (ys.drop k) = cmpS (xs.drop (k + 1)) (ys.drop (k + 1))) := by show _ = _; rw [List.drop_eq_getElem_cons hx, List.drop_eq_getElem_cons hy, cmpS, if_neg h1, if_neg h2]
            have hd : decide (xs[k] < ys[k]) = false := by simpa using h1
            have hd2 : decide (ys[k] < xs[k]) = false := by simpa using h2
            go_wp2
            go_quiet (fail)
            go_wp2
            go_quiet (fail)
            go_wp2
            go_roundw
            case rel => exact ⟨by first | exact ⟨_, rfl⟩ | (simp only [World.drewN_drewN]; exact ⟨_, rfl⟩), k + 1, by omega, by omega, by go_num, by rw [← HR.out, HF.out]⟩
            case measure => simp [intOf]; omega
      · have HF : Hid (cmpS (xs.drop k) (ys.drop k) = 1) := by show _ = _; rw [List.drop_eq_getElem_cons hx, List.drop_of_length_le (show ys.length ≤ k by omega), cmpS]
        have hlt : ys.length < xs.length := by omega
        have hle : ¬ xs.length < ys.length := by omega
        have e1 : decide ((xs.length : Int) < (ys.length : Int)) = false := by simp; omega
        have e2 : decide ((ys.length : Int) < (xs.length : Int)) = true := by simp; omega
        go_wp2
        go_ret
        exact ⟨by rw [← HR.out, HF.out]; rfl, by first | exact ⟨_, rfl⟩ | (simp only [World.drewN_drewN]; exact ⟨_, rfl⟩)⟩
    · have HF : Hid (cmpS (xs.drop k) (ys.drop k) = if k < ys.length then -1 else 0) := by
        show _ = _
        rw [List.drop_of_length_le (show xs.length ≤ k by omega)]
        split
        · rename_i h; rw [List.drop_eq_getElem_cons h, cmpS]
        · rename_i h; rw [List.drop_of_length_le (by omega), cmpS]
      by_cases hy : k < ys.length
      · rw [if_pos hy] at HF
        go_wp2
        go_ret
        exact ⟨by rw [← HR.out, HF.out]; rfl, by first | exact ⟨_, rfl⟩ | (simp only [World.drewN_drewN]; exact ⟨_, rfl⟩)⟩
      · rw [if_neg hy] at HF
        go_wp2
        go_ret
        exact ⟨by rw [← HR.out, HF.out]; rfl, by first | exact ⟨_, rfl⟩ | (simp only [World.drewN_drewN]; exact ⟨_, rfl⟩)⟩
theorem cmpS_zero : ∀ xs ys : List Int, cmpS xs ys = 0 ↔ xs = ys
  | [], [] => by simp [cmpS]
  | [], _ :: _ => by simp [cmpS]
  | _ :: _, [] => by simp [cmpS]
  | a :: l, b :: r => by
    have ih := cmpS_zero l r
    unfold cmpS
    split
    · simp; intro h; omega
    · split
      · simp; intro h; omega
      · rw [ih, List.cons.injEq]
        constructor
        · intro h; exact ⟨by omega, h⟩
        · intro h; exact h.2
set_option maxHeartbeats 1000000 in
theorem equal_q (xs ys : List Int) (w : World) (a b : Value) (B B' : Nat → Prop) (ha : IntsR w B xs a) (hb : IntsR w B' ys b) :
    Calls Tryz.prog 123 #[a, b] w fun e w' => e = .returned (.bool (decide (xs = ys))) ∧ ∃ n, w' = w.drewN n := by
  obtain ⟨A, cap, rs, rfl, hcap, hmax, hrd, hls⟩ := ha
  obtain ⟨A', cap', rs', rfl, hcap', hmax', hrd', hls'⟩ := hb
  unfold maxLen at hmax hmax'
  have hl1 : xs.length ≤ 9223372036854775807 := by omega
  have hl2 : ys.length ≤ 9223372036854775807 := by omega
  have H : Hid ((Reads w B A rs ∧ ListR intE w B xs rs) ∧ (Reads w B' A' rs' ∧ ListR intE w B' ys rs')) := ⟨⟨hrd, hls⟩, ⟨hrd', hls'⟩⟩
  clear hrd hls hrd' hls'
  by_cases hlen : xs.length = ys.length
  · have e0 : ((xs.length : Int) != (ys.length : Int)) = false := by rw [hlen]; simp
    have HL := hid hlen
    clear hlen
    go_enter Tryz.func123, Tryz.ntmps123
    go_wp2
    go_loopw [13] (fun i wr => (∃ n, wr = w.drewN n) ∧ ∃ (k : Nat), k ≤ xs.length ∧ i = .int .i64 k ∧ decide (xs.drop k = ys.drop k) = decide (xs = ys)) (fun i _ => xs.length - (intOf i).toNat)
    case atStart => exact ⟨⟨0, rfl⟩, 0, Nat.zero_le _, rfl, rfl⟩
    case round =>
      obtain ⟨⟨n, rfl⟩, k, hk, rfl, hrest⟩ := hrel
      have HR := hid hrest
      clear hrest
      by_cases hx : k < xs.length
      · have hy : k < ys.length := by have := HL.out; omega
        obtain ⟨g, o, rfl, hg, hi, c0⟩ := ints_at H.out.1.1 H.out.1.2 hx
        obtain ⟨g', o', rfl, hg', hi', c0'⟩ := ints_at H.out.2.1 H.out.2.2 hy
        have i1 : (k : Int) < (xs.length : Int) := by omega
        have i2 : (k : Int) < (ys.length : Int) := by omega
        by_cases h1 : xs[k] = ys[k]
        · have HF : Hid (decide (xs.drop (k + 1) = ys.drop (k + 1)) = decide (xs.drop k = ys.drop k)) := by show _ = _; rw [List.drop_eq_getElem_cons hx, List.drop_eq_getElem_cons hy]; simp only [List.cons.injEq, h1, true_and]
          have hd : (xs[k] != ys[k]) = false := by simpa using h1
          clear h1
          go_wp2
          go_quiet (fail)
          go_wp2
          go_roundw
          case rel => exact ⟨by first | exact ⟨_, rfl⟩ | (simp only [World.drewN_drewN]; exact ⟨_, rfl⟩), k + 1, by omega, by go_num, by rw [← HR.out, HF.out]⟩
          case measure => simp [intOf]; omega
        · have HF : Hid (decide (xs.drop k = ys.drop k) = false) := by show _ = _; rw [List.drop_eq_getElem_cons hx, List.drop_eq_getElem_cons hy]; exact decide_eq_false (fun h => h1 (List.cons.inj h).1)
          have hd : (xs[k] != ys[k]) = true := by simpa using h1
          clear h1
          go_wp2
          go_quiet (fail)
          go_wp2
          go_ret
          exact ⟨by rw [← HR.out, HF.out]; rfl, by first | exact ⟨_, rfl⟩ | (simp only [World.drewN_drewN]; exact ⟨_, rfl⟩)⟩
      · have HF : Hid (decide (xs.drop k = ys.drop k) = true) := by
          have := HL.out
          show _ = _; rw [List.drop_of_length_le (by omega), List.drop_of_length_le (by omega)]; simp
        go_wp2
        go_ret
        exact ⟨by rw [← HR.out, HF.out]; rfl, by first | exact ⟨_, rfl⟩ | (simp only [World.drewN_drewN]; exact ⟨_, rfl⟩)⟩
  · have e0 : ((xs.length : Int) != (ys.length : Int)) = true := by simp; omega
    have HF : Hid (decide (xs = ys) = false) := by show _ = _; simp; intro h; exact hlen (by rw [h])
    clear hlen
    go_enter Tryz.func123, Tryz.ntmps123
    go_wp2
    go_ret
    exact ⟨by rw [HF.out]; rfl, 0, rfl⟩
end Go.Proofs.YtmahiejfniaahaaGreatDoor
set_option linter.unusedVariables false
set_option linter.unusedSimpArgs false
set_option maxRecDepth 100000
namespace Go.Proofs.YtmahiejfniaahaaGreatDoor
open Go.RowKit
section
variable {α : Type} (E : Enc α) {t e : TypeId} (ht : Tryz.prog.underlying t = some (.slice e)) (hs : ∀ w, (Go.sizeOf e).run Tryz.prog w = .ok E.size w)
include ht hs
theorem cut_l (A : Option Addr) (n c : Nat) (l : Int) (k : Nat) (hk : l = k) (hl : k ≤ n) :
    ∃ A', (∀ w, (Instr.slice t (.slice A n c) (some (.int .i64 l)) none none).run Tryz.prog w = .ok (.slice A' (n - k) (c - k)) w) ∧
      (∀ w S (xs : List α), SliceR E w S xs (.slice A n c) → SliceR E w S (xs.drop k) (.slice A' (n - k) (c - k))) := by
  subst hk
  have he : Tryz.prog.elem t = e := by simp [Program.elem, ht]
  refine ⟨if c = k then A else A.map (·.add (k * E.size)), fun w => ?_, fun w S xs h => ?_⟩
  · rw [run_slice_l w t A n c (by rw [he]; exact ht) .i64 k (by omega) (by omega), he, hs w]
    simp [Result.andThen, sliced]
  · have hx : xs.length = n := by obtain ⟨A', cap, cs, e, _⟩ := h; injection e with _ e2; exact e2.symm
    have := h.cut k n hl (Nat.le_refl _)
    rwa [List.take_of_length_le (by omega)] at this
theorem cut_h (A : Option Addr) (n c : Nat) (l : Int) (k : Nat) (hk : l = k) (hl : k ≤ n) (hc : n ≤ c) :
    ∃ A', (∀ w, (Instr.slice t (.slice A n c) none (some (.int .i64 l)) none).run Tryz.prog w = .ok (.slice A' k c) w) ∧
      (∀ w S (xs : List α), SliceR E w S xs (.slice A n c) → SliceR E w S (xs.take k) (.slice A' k c)) := by
  subst hk
  have he : Tryz.prog.elem t = e := by simp [Program.elem, ht]
  refine ⟨if c = 0 then A else A.map (·.add (0 * E.size)), fun w => ?_, fun w S xs h => ?_⟩
  · rw [run_slice_h w t A n c (by rw [he]; exact ht) .i64 k (by omega) (by omega), he, hs w]
    simp [Result.andThen, sliced]
  · have := h.cut 0 k (Nat.zero_le _) hl
    simpa using this
end
theorem size_int (w : World) : (Go.sizeOf 3).run Tryz.prog w = .ok intE.size w := by kernel_rfl
end Go.Proofs.YtmahiejfniaahaaGreatDoor
set_option linter.unusedVariables false
set_option linter.unusedSimpArgs false
namespace Go.Proofs.YtmahiejfniaahaaGreatDoor
open Go.RowKit
def icmp (a b : Int) : Int := if a < b then -1 else if b < a then 1 else 0
theorem isNaN_q (a : Int) (w : World) : Calls Tryz.prog 90 #[.int .i64 a] w fun e w' => e = .returned (.bool false) ∧ w = w' := by
  go_enter Tryz.func90, Tryz.ntmps90
  go_wp2
  go_ret
  exact ⟨by simp, rfl⟩
set_option maxHeartbeats 1000000 in
theorem ccmp_q (a b : Int) (w : World) : Calls Tryz.prog 51 #[.int .i64 a, .int .i64 b] w fun e w' => e = .returned (.int .i64 (icmp a b)) ∧ w = w' := by
  by_cases h1 : a < b
  · have HF : Hid (icmp a b = -1) := by show _ = _; rw [icmp, if_pos h1]
    go_enter Tryz.func51, Tryz.ntmps51
    go_wp2_with (go_at_call 90; refine (isNaN_q _ _).mono ?_; rintro e w' ⟨rfl, rfl⟩)
    go_ret
    exact ⟨by rw [HF.out]; rfl, rfl⟩
  · by_cases h2 : b < a
    · have HF : Hid (icmp a b = 1) := by show _ = _; rw [icmp, if_neg h1, if_pos h2]
      have d1 : decide (a < b) = false := by simpa using h1
      go_enter Tryz.func51, Tryz.ntmps51
      go_wp2_with (go_at_call 90; refine (isNaN_q _ _).mono ?_; rintro e w' ⟨rfl, rfl⟩)
      go_ret
      exact ⟨by rw [HF.out]; rfl, rfl⟩
    · have HF : Hid (icmp a b = 0) := by show _ = _; rw [icmp, if_neg h1, if_neg h2]
      have d1 : decide (a < b) = false := by simpa using h1
      have d2 : decide (b < a) = false := by simpa using h2
      go_enter Tryz.func51, Tryz.ntmps51
      go_wp2_with (go_at_call 90; refine (isNaN_q _ _).mono ?_; rintro e w' ⟨rfl, rfl⟩)
      go_ret
      exact ⟨by rw [HF.out]; rfl, rfl⟩
theorem cmpS_ne {a b : Int} {l r : List Int} (h : icmp a b ≠ 0) : cmpS (a :: l) (b :: r) = icmp a b := by
  unfold icmp at *; rw [cmpS]; split <;> simp_all
theorem cmpS_eq {a b : Int} {l r : List Int} (h : icmp a b = 0) : cmpS (a :: l) (b :: r) = cmpS l r := by
  unfold icmp at h; rw [cmpS]
  by_cases h1 : a < b
  · rw [if_pos h1] at h; omega
  · by_cases h2 : b < a
    · rw [if_neg h1, if_pos h2] at h; omega
    · rw [if_neg h1, if_neg h2]
set_option maxHeartbeats 1000000 in
theorem scmp_q (xs ys : List Int) (w : World) (a b : Value) (B B' : Nat → Prop) (ha : IntsR w B xs a) (hb : IntsR w B' ys b) :
    Calls Tryz.prog 124 #[a, b] w fun e w' => e = .returned (.int .i64 (cmpS xs ys)) ∧ w = w' := by
  obtain ⟨A, cap, rs, rfl, hcap, hmax, hrd, hls⟩ := ha
  obtain ⟨A', cap', rs', rfl, hcap', hmax', hrd', hls'⟩ := hb
  unfold maxLen at hmax hmax'
  have hl1 : xs.length ≤ 9223372036854775807 := by omega
  have hl2 : ys.length ≤ 9223372036854775807 := by omega
  have H : Hid ((Reads w B A rs ∧ ListR intE w B xs rs) ∧ (Reads w B' A' rs' ∧ ListR intE w B' ys rs')) := ⟨⟨hrd, hls⟩, ⟨hrd', hls'⟩⟩
  clear hrd hls hrd' hls'
  go_enter Tryz.func124, Tryz.ntmps124
  go_wp2
  go_loop [11] (fun i => ∃ (k : Nat), k ≤ xs.length ∧ k ≤ ys.length ∧ i = .int .i64 k ∧ cmpS (xs.drop k) (ys.drop k) = cmpS xs ys) (fun i => xs.length - (intOf i).toNat)
  case atStart => exact ⟨0, Nat.zero_le _, Nat.zero_le _, rfl, rfl⟩
  case round =>
    obtain ⟨k, hk, hk', rfl, hrest⟩ := hrel
    have HR := hid hrest
    clear hrest
    by_cases hx : k < xs.length
    · obtain ⟨g, o, rfl, hg, hi, c0⟩ := ints_at H.out.1.1 H.out.1.2 hx
      have i1 : (k : Int) < (xs.length : Int) := by omega
      by_cases hy : k < ys.length
      · obtain ⟨g', o', rfl, hg', hi', c0'⟩ := ints_at H.out.2.1 H.out.2.2 hy
        have i2 : (k : Int) < (ys.length : Int) := by omega
        have i3 : decide ((ys.length : Int) ≤ (k : Int)) = false := by simp; omega
        by_cases h0 : icmp xs[k] ys[k] = 0
        · have HF : Hid (cmpS (xs.drop k) (ys.drop k) = cmpS (xs.drop (k + 1)) (ys.drop (k + 1))) := by show _ = _; rw [List.drop_eq_getElem_cons hx, List.drop_eq_getElem_cons hy, cmpS_eq h0]
          go_wp2_with (go_at_call 51; refine (ccmp_q _ _ _).mono ?_; rintro e w' ⟨rfl, rfl⟩)
          go_round
          case rel => exact ⟨k + 1, by omega, by omega, by go_num, by rw [← HR.out, HF.out]⟩
          case measure => simp [intOf]; omega
        · have HF : Hid (cmpS (xs.drop k) (ys.drop k) = icmp xs[k] ys[k]) := by show _ = _; rw [List.drop_eq_getElem_cons hx, List.drop_eq_getElem_cons hy, cmpS_ne h0]
          have h1 : (!(icmp xs[k] ys[k] == 0)) = true := by simpa using h0
          have HC : Hid (∀ W, Calls Tryz.prog 51 #[.int .i64 xs[k], .int .i64 ys[k]] W fun e w' => e = .returned (.int .i64 (icmp xs[k] ys[k])) ∧ W = w') := fun W => ccmp_q _ _ W
          generalize icmp xs[k] ys[k] = c at *
          go_wp2_with (go_at_call 51; refine (HC.out _).mono ?_; rintro e w' ⟨rfl, rfl⟩)
          go_ret
          exact ⟨by rw [← HR.out, HF.out]; rfl, rfl⟩
      · have HF : Hid (cmpS (xs.drop k) (ys.drop k) = 1) := by show _ = _; rw [List.drop_eq_getElem_cons hx, List.drop_of_length_le (show ys.length ≤ k by omega), cmpS]
        have i3 : decide ((ys.length : Int) ≤ (k : Int)) = true := by simp; omega
        go_wp2
        go_ret
        exact ⟨by rw [← HR.out, HF.out]; rfl, rfl⟩
    · have hke : k = xs.length := by omega
      by_cases hy : k < ys.length
      · have HF : Hid (cmpS (xs.drop k) (ys.drop k) = -1) := by show _ = _; rw [List.drop_of_length_le (show xs.length ≤ k by omega), List.drop_eq_getElem_cons hy, cmpS]
        have e1 : decide ((xs.length : Int) < (ys.length : Int)) = true := by simp; omega
        clear hke
        go_wp2
        go_ret
        exact ⟨by rw [← HR.out, HF.out]; rfl, rfl⟩
      · have HF : Hid (cmpS (xs.drop k) (ys.drop k) = 0) := by show _ = _; rw [List.drop_of_length_le (show xs.length ≤ k by omega), List.drop_of_length_le (show ys.length ≤ k by omega), cmpS]
        have e1 : decide ((xs.length : Int) < (ys.length : Int)) = false := by simp; omega
        clear hke
        go_wp2
        go_ret
        exact ⟨by rw [← HR.out, HF.out]; rfl, rfl⟩
end Go.Proofs.YtmahiejfniaahaaGreatDoor
