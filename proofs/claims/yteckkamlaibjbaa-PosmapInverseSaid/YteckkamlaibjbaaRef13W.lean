/- ref13: within. -/
import Derived.Test.YteckkamlaibjbaaInts
import Derived.Deep.QuietTactic
import Derived.BigQuiet
set_option linter.unusedVariables false
set_option linter.unusedSimpArgs false
namespace Go.Proofs.Yteckkamlaibjbaa
open Go.RowKit

/-- Whether a list is longer than another one, begins with it, and has not just two numbers more. -/
def withinS (pos row : List Int) : Bool := decide (row.length < pos.length ∧ pos.take row.length = row ∧ pos.length ≠ row.length + 2)

set_option maxHeartbeats 1000000 in
theorem within_q (pos row : List Int) (w : World) (a b : Value) (B B' : Nat → Prop) (ha : IntsR w B pos a) (hb : IntsR w B' row b) (hll : row.length ≤ 1000000) :
    Calls Try.prog 43 #[a, b] w fun e w' => e = .returned (.bool (withinS pos row)) ∧ ∃ n, w' = w.drewN n := by
  obtain ⟨A, cap, rs, rfl, hcap, hmax, hrd, hls⟩ := ha
  obtain ⟨A', cap', rs', rfl, hcap', hmax', hrd', hls'⟩ := hb
  unfold maxLen at hmax hmax'
  have hl1 : pos.length ≤ 9223372036854775807 := by omega
  have H : Hid ((Reads w B A rs ∧ ListR intE w B pos rs) ∧ (Reads w B' A' rs' ∧ ListR intE w B' row rs')) := ⟨⟨hrd, hls⟩, ⟨hrd', hls'⟩⟩
  clear hrd hls hrd' hls'
  by_cases hlt : row.length < pos.length
  · go_enter Try.func43, Try.ntmps43
    go_wp2_with fail
    go_loopw [5] (fun i wr => (∃ n, wr = w.drewN n) ∧ ∃ (k : Nat), k ≤ row.length ∧ i = .int .i64 k ∧ pos.take k = row.take k) (fun i _ => row.length - (intOf i).toNat)
    case atStart => exact ⟨⟨0, rfl⟩, 0, Nat.zero_le _, rfl, rfl⟩
    case round =>
      obtain ⟨⟨n, rfl⟩, k, hk, rfl, hrest⟩ := hrel
      have HR := hid hrest
      clear hrest
      by_cases hx : k < row.length
      · have hy : k < pos.length := by omega
        obtain ⟨g, o, rfl, hg, hi, c0⟩ := ints_at H.out.1.1 H.out.1.2 hy
        obtain ⟨g', o', rfl, hg', hi', c0'⟩ := ints_at H.out.2.1 H.out.2.2 hx
        have i1 : (k : Int) < (row.length : Int) := by omega
        have i2 : (k : Int) < (pos.length : Int) := by omega
        by_cases h1 : pos[k] = row[k]
        · have HF : Hid (pos.take (k + 1) = row.take (k + 1)) := by show _ = _; rw [List.take_succ_eq_append_getElem hx, List.take_succ_eq_append_getElem hy, HR.out, h1]
          have hd : (pos[k] != row[k]) = false := by simpa using h1
          clear h1
          go_wp2
          go_quiet (fail)
          go_wp2
          go_roundw
          case rel => exact ⟨by first | exact ⟨_, rfl⟩ | (simp only [World.drewN_drewN]; exact ⟨_, rfl⟩), k + 1, by omega, by go_num, HF.out⟩
          case measure => simp [intOf]; omega
        · have HF : Hid (withinS pos row = false) := by
            show _ = _
            unfold withinS
            refine decide_eq_false fun h => h1 ?_
            have h2 : (pos.take row.length)[k]? = row[k]? := by rw [h.2.1]
            rw [List.getElem?_take, if_pos hx, List.getElem?_eq_getElem hy, List.getElem?_eq_getElem hx] at h2
            exact Option.some.inj h2
          have hd : (pos[k] != row[k]) = true := by simpa using h1
          clear h1
          go_wp2
          go_quiet (fail)
          go_wp2
          go_ret
          exact ⟨by rw [HF.out]; rfl, by first | exact ⟨_, rfl⟩ | (simp only [World.drewN_drewN]; exact ⟨_, rfl⟩)⟩
      · have hke : k = row.length := by omega
        have ht : pos.take row.length = row := by have := HR.out; rw [hke, List.take_length] at this; exact this
        by_cases h2 : pos.length = row.length + 2
        · have HF : Hid (withinS pos row = false) := by show _ = _; unfold withinS; exact decide_eq_false fun h => h.2.2 h2
          have hd : ((pos.length : Int) != (row.length : Int) + 2) = false := by simp; omega
          clear h2 ht hke
          go_wp2
          go_ret
          exact ⟨by rw [HF.out]; rfl, by first | exact ⟨_, rfl⟩ | (simp only [World.drewN_drewN]; exact ⟨_, rfl⟩)⟩
        · have HF : Hid (withinS pos row = true) := by show _ = _; unfold withinS; exact decide_eq_true ⟨hlt, ht, h2⟩
          have hd : ((pos.length : Int) != (row.length : Int) + 2) = true := by simp; omega
          clear h2 ht hke
          go_wp2
          go_ret
          exact ⟨by rw [HF.out]; rfl, by first | exact ⟨_, rfl⟩ | (simp only [World.drewN_drewN]; exact ⟨_, rfl⟩)⟩
  · have HF : Hid (withinS pos row = false) := by show _ = _; unfold withinS; exact decide_eq_false fun h => hlt h.1
    go_enter Try.func43, Try.ntmps43
    go_wp2_with fail
    go_ret
    exact ⟨by rw [HF.out]; rfl, 0, rfl⟩
end Go.Proofs.Yteckkamlaibjbaa
