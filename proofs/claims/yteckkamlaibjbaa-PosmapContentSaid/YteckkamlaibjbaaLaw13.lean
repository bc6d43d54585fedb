/- The law's own small functions: near, ref12.Few, few. -/
import Derived.Test.YteckkamlaibjbaaConcat
import Derived.Test.YteckkamlaibjbaaRef09
import Derived.Test.YteckkamlaibjbaaRef13O
set_option linter.unusedVariables false
set_option linter.unusedSimpArgs false
namespace Go.Proofs.Yteckkamlaibjbaa
open Go.RowKit

def nearS (xs : List Int) : Bool := xs.all fun x => decide (-1099511627776 ≤ x ∧ x ≤ 1099511627776)
theorem nearS_drop_cons {xs : List Int} {k : Nat} (h : k < xs.length) : nearS (xs.drop k) = (decide (-1099511627776 ≤ xs[k] ∧ xs[k] ≤ 1099511627776) && nearS (xs.drop (k + 1))) := by
  rw [List.drop_eq_getElem_cons h]; rfl
theorem nearS_bd {xs : List Int} (h : nearS xs = true) : ∀ x ∈ xs, Bd 1099511627776 x := by
  intro x hx
  have := List.all_eq_true.1 h x hx
  simpa [Bd] using this

set_option maxHeartbeats 1000000 in
theorem near_q (xs : List Int) (w : World) (v : Value) (S : Nat → Prop) (hv : IntsR w S xs v) :
    Calls Try.prog 30 #[v] w fun e w' => e = .returned (.bool (nearS xs)) ∧ w = w' := by
  obtain ⟨A, cap, rs, rfl, hcap, hmax, hrd, hls⟩ := hv
  unfold maxLen at hmax
  have hl : xs.length ≤ 9223372036854775807 := by omega
  have H : Hid (Reads w S A rs ∧ ListR intE w S xs rs) := ⟨hrd, hls⟩
  clear hrd hls
  go_enter Try.func30, Try.ntmps30
  go_wp2
  go_loop [7] (fun i => ∃ k : Nat, k ≤ xs.length ∧ i = .int .i64 k ∧ nearS (xs.drop k) = nearS xs) (fun i => xs.length - (intOf i).toNat)
  case atStart => exact ⟨0, Nat.zero_le _, rfl, rfl⟩
  case round =>
    obtain ⟨k, hk, rfl, hrest⟩ := hrel
    have HR := hid hrest
    clear hrest
    by_cases hlt : k < xs.length
    · obtain ⟨g, o, rfl, hg, hi, c0⟩ := ints_at H.out.1 H.out.2 hlt
      have HN := hid (nearS_drop_cons hlt)
      by_cases h1 : xs[k] ≤ 1099511627776
      · by_cases h2 : -1099511627776 ≤ xs[k]
        · have d1 : decide (1099511627776 < xs[k]) = false := by simp; omega
          have d2 : decide (xs[k] < -1099511627776) = false := by simp; omega
          have HF : Hid (nearS (xs.drop (k + 1)) = nearS xs) := by show _ = _; rw [← HR.out, HN.out]; simp [h1, h2]
          go_wp2
          go_round
          case rel => exact ⟨k + 1, by omega, by go_num, HF.out⟩
          case measure => simp [intOf]; omega
        · have d1 : decide (1099511627776 < xs[k]) = false := by simp; omega
          have d2 : decide (xs[k] < -1099511627776) = true := by simp; omega
          have HF : Hid (nearS xs = false) := by show _ = _; rw [← HR.out, HN.out]; simp [h2]
          go_wp2
          go_ret
          exact ⟨by rw [HF.out]; rfl, rfl⟩
      · have d1 : decide (1099511627776 < xs[k]) = true := by simp; omega
        have HF : Hid (nearS xs = false) := by show _ = _; rw [← HR.out, HN.out]; simp [h1]
        go_wp2
        go_ret
        exact ⟨by rw [HF.out]; rfl, rfl⟩
    · have HF : Hid (nearS xs = true) := by show _ = _; rw [← HR.out, List.drop_of_length_le (by omega)]; rfl
      go_wp2
      go_ret
      exact ⟨by rw [HF.out]; rfl, rfl⟩

theorem toRow_any (w : World) (A : Option Addr) (n c : Nat) : Calls Try.prog 48 #[.slice A n c] w fun e w' => e = .returned (.agg #[.int .i64 1, .string ⟨#[]⟩, .int .i64 0, .slice A n c]) ∧ Below w.heap.size w w' := by
  go_enter Try.func48, Try.ntmps48
  go_wp2
  refine bodyPost_ret (v := .agg #[.int .i64 1, .string ⟨#[]⟩, .int .i64 0, .slice A n c]) (by simp [results, Try.results48, go_sem]) rfl ⟨rfl, below_alloc _ _⟩

def opFewS (op : OpD) : Bool := fewS (.mk 1 ⟨#[]⟩ 0 op.nodes) 100 && decide (op.row.length ≤ 60)

set_option maxHeartbeats 1000000 in
theorem opFew_any (op : OpD) (Ar An : Option Addr) (cr cn : Nat) (w : World) (hr : IntsR w (Lt w.heap.size) op.row (.slice Ar op.row.length cr)) (hn : TreesS w (Lt w.heap.size) op.nodes (.slice An op.nodes.length cn)) :
    Calls Try.prog 29 #[.agg (opC op (.slice Ar op.row.length cr) (.slice An op.nodes.length cn))] w fun e w' => e = .returned (.bool (opFewS op)) ∧ Below w.heap.size w w' := by
  have hrl := hr.lens
  obtain ⟨o1, ho1⟩ : ∃ o, o = Obj.cells (opC op (.slice Ar op.row.length cr) (.slice An op.nodes.length cn)) 27 := ⟨_, rfl⟩
  have HB : Hid (Below w.heap.size w (w.alloc o1)) := below_alloc _ _
  rw [ho1] at HB
  have HN : Hid (∀ W, Below w.heap.size w W → Calls Try.prog 11 #[.agg #[.int .i64 1, .string ⟨#[]⟩, .int .i64 0, .slice An op.nodes.length cn], .int .i64 100] W fun e w' => e = .returned (.bool (fewS (.mk 1 ⟨#[]⟩ 0 op.nodes) 100)) ∧ Below W.heap.size W w') :=
    fun W hW => few_any (.mk 1 ⟨#[]⟩ 0 op.nodes) W _ 100 (hn.below hW hW.size) (by omega) (by omega)
  have HF : Hid (opFewS op = (fewS (.mk 1 ⟨#[]⟩ 0 op.nodes) 100 && decide (op.row.length ≤ 60))) := rfl
  clear hr hn ho1
  generalize hfs : fewS (.mk 1 ⟨#[]⟩ 0 op.nodes) 100 = fs at *
  obtain ⟨kind, row, at_, n, nodes, slot, old, text⟩ := op
  simp only [opC] at *
  clear hfs
  unfold maxLen at hrl
  have q1 : (w.alloc (Obj.cells #[.int .i64 kind, .slice Ar row.length cr, .int .i64 at_, .int .i64 n, .slice An nodes.length cn, .int .i64 slot, .string old, .string text] 27)).cell? ⟨w.heap.size, 1, none⟩ = some (.slice Ar row.length cr) := by rw [World.cell?_alloc_new]; rfl
  cases fs
  all_goals
    go_enter Try.func29, Try.ntmps29
    go_wp2_with fail
    refine (toRow_any _ _ _ _).mono ?_
    rintro e w1 ⟨rfl, hb1⟩
    have q2 : w1.cell? ⟨w.heap.size, 1, none⟩ = some (.slice Ar row.length cr) := ((bcell hb1).1 w.heap.size 1 (by simp)).trans (by rw [World.cell?_alloc_new]; rfl)
    have z1 : w.heap.size < w1.heap.size := by have := hb1.size; simp at this; omega
    have HB1 : Hid (Below w.heap.size w w1) := HB.out.trans (hb1.mono HB.out.size)
    clear hb1
    go_wp2_with fail
    refine (HN.out _ HB1.out).mono ?_
    rintro e w2 ⟨rfl, hb2⟩
    have q3 : w2.cell? ⟨w.heap.size, 1, none⟩ = some (.slice Ar row.length cr) := ((bcell hb2).1 w.heap.size 1 z1).trans q2
    have HB2 : Hid (Below w.heap.size w w2) := HB1.out.trans (hb2.mono HB1.out.size)
    clear hb2 q2
    go_wp2_with fail
  · go_ret
    exact ⟨by rw [HF.out]; rfl, HB2.out⟩
  · go_ret
    exact ⟨by rw [HF.out]; simp; omega, HB2.out⟩
end Go.Proofs.Yteckkamlaibjbaa
