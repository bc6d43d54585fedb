/- ref13.offset: every test decided ahead of the walk. Written by wip/gen13.py. -/
import Derived.Test.YteckkamlaibjbaaPlaceD
set_option linter.unusedVariables false
set_option linter.unusedSimpArgs false
namespace Go.Proofs.Yteckkamlaibjbaa
open Go.RowKit

abbrev opC (op : OpD) (vr vn : Value) : Array Value :=
  #[.int .i64 op.kind, vr, .int .i64 op.at_, .int .i64 op.n, vn, .int .i64 op.slot, .string op.old, .string op.text]

/-- What the arithmetic on an operation asks. -/
structure OpD.Ok (op : OpD) : Prop where
  at_ : Bd 1099511627776 op.at_
  n : Bd 1099511627776 op.n
  slot : Bd 1099511627776 op.slot
  nodes : op.nodes.length ≤ 1000000
  row : op.row.length ≤ 1000

def offsetS (op : OpD) (o : Int) (after : Bool) : List Int :=
  if op.kind = 1 ∧ (op.at_ < o ∨ o = op.at_ ∧ after = true) then [o + op.nodes.length]
  else if op.kind = 2 ∧ op.at_ < o then (if o < op.at_ + op.nodes.length then [op.at_] else [o - op.nodes.length])
  else if op.kind = 3 ∧ op.at_ < o then (if o < op.at_ + op.n then [op.at_, op.slot, o - op.at_] else [o - op.n + 1])
  else if op.kind = 3 ∧ o = op.at_ ∧ op.n = 0 ∧ after = true then [op.at_ + 1]
  else if op.kind = 4 ∧ op.at_ < o then [o - 1 + op.n]
  else [o]

set_option maxHeartbeats 4000000 in
theorem offset_any (op : OpD) (o : Int) (after : Bool) (Ar An : Option Addr) (lr cr cn : Nat) (w : World) (hop : op.Ok) (ho : Bd 1152921504606846976 o) :
    Calls Try.prog 44 #[.agg (opC op (.slice Ar lr cr) (.slice An op.nodes.length cn)), .int .i64 o, .bool after] w (IntsPost w (offsetS op o after)) := by
  obtain ⟨hat, hn, hslot, hnl, hrl⟩ := hop
  unfold Bd at *
  obtain ⟨hat1, hat2⟩ := hat
  obtain ⟨hn1, hn2⟩ := hn
  obtain ⟨hs1, hs2⟩ := hslot
  obtain ⟨ho1, ho2⟩ := ho
  obtain ⟨kind, row, at_, n, nodes, slot, old, text⟩ := op
  simp only [opC] at *
  by_cases hc0 : kind = 1
  · subst hc0
    rcases Int.lt_trichotomy o at_ with hl1 | he1 | hg1
    · have hq1 : (o == at_) = false := by simp; omega
      have HF : Hid (offsetS ⟨1, row, at_, n, nodes, slot, old, text⟩ o after = [o]) := by
        show _ = _
        unfold offsetS
        repeat' split
        all_goals first | rfl | (exfalso; simp_all; done) | (exfalso; simp_all; omega) | (simp; done) | (simp; omega)
      go_enter Try.func44, Try.ntmps44
      go_wp2_with fail
      go_ret
      rw [HF.out]
      exact ⟨_, rfl, lit_post (below_alloc _ _) [o] (by intro x hx; simp only [List.mem_cons, List.not_mem_nil, or_false] at hx; rcases hx with rfl <;> (apply in64_of <;> omega)) (by simp) _ _ rfl (by simp) _ rfl⟩
    · have hq1 : (o == at_) = true := by simp; omega
      have hu1 : o ≤ at_ := by omega
      have hv1 : at_ ≤ o := by omega
      clear he1
      cases after with
      | true =>
        have HF : Hid (offsetS ⟨1, row, at_, n, nodes, slot, old, text⟩ o true = [o + (nodes.length : Int)]) := by
          show _ = _
          unfold offsetS
          repeat' split
          all_goals first | rfl | (exfalso; simp_all; done) | (exfalso; simp_all; omega) | (simp; done) | (simp; omega)
        go_enter Try.func44, Try.ntmps44
        go_wp2_with fail
        go_ret
        rw [HF.out]
        exact ⟨_, rfl, lit_post (below_alloc _ _) [o + (nodes.length : Int)] (by intro x hx; simp only [List.mem_cons, List.not_mem_nil, or_false] at hx; rcases hx with rfl <;> (apply in64_of <;> omega)) (by simp) _ _ rfl (by simp) _ rfl⟩
      | false =>
        have HF : Hid (offsetS ⟨1, row, at_, n, nodes, slot, old, text⟩ o false = [o]) := by
          show _ = _
          unfold offsetS
          repeat' split
          all_goals first | rfl | (exfalso; simp_all; done) | (exfalso; simp_all; omega) | (simp; done) | (simp; omega)
        go_enter Try.func44, Try.ntmps44
        go_wp2_with fail
        go_ret
        rw [HF.out]
        exact ⟨_, rfl, lit_post (below_alloc _ _) [o] (by intro x hx; simp only [List.mem_cons, List.not_mem_nil, or_false] at hx; rcases hx with rfl <;> (apply in64_of <;> omega)) (by simp) _ _ rfl (by simp) _ rfl⟩
    · have hq1 : (o == at_) = false := by simp; omega
      have HF : Hid (offsetS ⟨1, row, at_, n, nodes, slot, old, text⟩ o after = [o + (nodes.length : Int)]) := by
        show _ = _
        unfold offsetS
        repeat' split
        all_goals first | rfl | (exfalso; simp_all; done) | (exfalso; simp_all; omega) | (simp; done) | (simp; omega)
      go_enter Try.func44, Try.ntmps44
      go_wp2_with fail
      go_ret
      rw [HF.out]
      exact ⟨_, rfl, lit_post (below_alloc _ _) [o + (nodes.length : Int)] (by intro x hx; simp only [List.mem_cons, List.not_mem_nil, or_false] at hx; rcases hx with rfl <;> (apply in64_of <;> omega)) (by simp) _ _ rfl (by simp) _ rfl⟩
  · have hc0' : (kind == 1) = false := by simpa using hc0
    clear hc0
    by_cases hc1 : kind = 2
    · subst hc1
      by_cases hd2 : at_ < o
      · skip
        by_cases hd3 : o < at_ + (nodes.length : Int)
        · skip
          have HF : Hid (offsetS ⟨2, row, at_, n, nodes, slot, old, text⟩ o after = [at_]) := by
            show _ = _
            unfold offsetS
            repeat' split
            all_goals first | rfl | (exfalso; simp_all; done) | (exfalso; simp_all; omega) | (simp; done) | (simp; omega)
          go_enter Try.func44, Try.ntmps44
          go_wp2_with fail
          go_ret
          rw [HF.out]
          exact ⟨_, rfl, lit_post (below_alloc _ _) [at_] (by intro x hx; simp only [List.mem_cons, List.not_mem_nil, or_false] at hx; rcases hx with rfl <;> (apply in64_of <;> omega)) (by simp) _ _ rfl (by simp) _ rfl⟩
        · have hd3' := Int.not_lt.1 hd3
          clear hd3
          have HF : Hid (offsetS ⟨2, row, at_, n, nodes, slot, old, text⟩ o after = [o - (nodes.length : Int)]) := by
            show _ = _
            unfold offsetS
            repeat' split
            all_goals first | rfl | (exfalso; simp_all; done) | (exfalso; simp_all; omega) | (simp; done) | (simp; omega)
          go_enter Try.func44, Try.ntmps44
          go_wp2_with fail
          go_ret
          rw [HF.out]
          exact ⟨_, rfl, lit_post (below_alloc _ _) [o - (nodes.length : Int)] (by intro x hx; simp only [List.mem_cons, List.not_mem_nil, or_false] at hx; rcases hx with rfl <;> (apply in64_of <;> omega)) (by simp) _ _ rfl (by simp) _ rfl⟩
      · have hd2' := Int.not_lt.1 hd2
        clear hd2
        have HF : Hid (offsetS ⟨2, row, at_, n, nodes, slot, old, text⟩ o after = [o]) := by
          show _ = _
          unfold offsetS
          repeat' split
          all_goals first | rfl | (exfalso; simp_all; done) | (exfalso; simp_all; omega) | (simp; done) | (simp; omega)
        go_enter Try.func44, Try.ntmps44
        go_wp2_with fail
        go_ret
        rw [HF.out]
        exact ⟨_, rfl, lit_post (below_alloc _ _) [o] (by intro x hx; simp only [List.mem_cons, List.not_mem_nil, or_false] at hx; rcases hx with rfl <;> (apply in64_of <;> omega)) (by simp) _ _ rfl (by simp) _ rfl⟩
    · have hc1' : (kind == 2) = false := by simpa using hc1
      clear hc1
      by_cases hc2 : kind = 3
      · subst hc2
        rcases Int.lt_trichotomy o at_ with hl3 | he3 | hg3
        · have hq3 : (o == at_) = false := by simp; omega
          have HF : Hid (offsetS ⟨3, row, at_, n, nodes, slot, old, text⟩ o after = [o]) := by
            show _ = _
            unfold offsetS
            repeat' split
            all_goals first | rfl | (exfalso; simp_all; done) | (exfalso; simp_all; omega) | (simp; done) | (simp; omega)
          go_enter Try.func44, Try.ntmps44
          go_wp2_with fail
          go_ret
          rw [HF.out]
          exact ⟨_, rfl, lit_post (below_alloc _ _) [o] (by intro x hx; simp only [List.mem_cons, List.not_mem_nil, or_false] at hx; rcases hx with rfl <;> (apply in64_of <;> omega)) (by simp) _ _ rfl (by simp) _ rfl⟩
        · have hq3 : (o == at_) = true := by simp; omega
          have hu3 : o ≤ at_ := by omega
          have hv3 : at_ ≤ o := by omega
          clear he3
          cases after with
          | true =>
            by_cases hc5 : n = 0
            · subst hc5
              have HF : Hid (offsetS ⟨3, row, at_, 0, nodes, slot, old, text⟩ o true = [at_ + 1]) := by
                show _ = _
                unfold offsetS
                repeat' split
                all_goals first | rfl | (exfalso; simp_all; done) | (exfalso; simp_all; omega) | (simp; done) | (simp; omega)
              go_enter Try.func44, Try.ntmps44
              go_wp2_with fail
              go_ret
              rw [HF.out]
              exact ⟨_, rfl, lit_post (below_alloc _ _) [at_ + 1] (by intro x hx; simp only [List.mem_cons, List.not_mem_nil, or_false] at hx; rcases hx with rfl <;> (apply in64_of <;> omega)) (by simp) _ _ rfl (by simp) _ rfl⟩
            · have hc5' : (n == 0) = false := by simpa using hc5
              clear hc5
              have HF : Hid (offsetS ⟨3, row, at_, n, nodes, slot, old, text⟩ o true = [o]) := by
                show _ = _
                unfold offsetS
                repeat' split
                all_goals first | rfl | (exfalso; simp_all; done) | (exfalso; simp_all; omega) | (simp; done) | (simp; omega)
              go_enter Try.func44, Try.ntmps44
              go_wp2_with fail
              go_ret
              rw [HF.out]
              exact ⟨_, rfl, lit_post (below_alloc _ _) [o] (by intro x hx; simp only [List.mem_cons, List.not_mem_nil, or_false] at hx; rcases hx with rfl <;> (apply in64_of <;> omega)) (by simp) _ _ rfl (by simp) _ rfl⟩
          | false =>
            by_cases hc5 : n = 0
            · subst hc5
              have HF : Hid (offsetS ⟨3, row, at_, 0, nodes, slot, old, text⟩ o false = [o]) := by
                show _ = _
                unfold offsetS
                repeat' split
                all_goals first | rfl | (exfalso; simp_all; done) | (exfalso; simp_all; omega) | (simp; done) | (simp; omega)
              go_enter Try.func44, Try.ntmps44
              go_wp2_with fail
              go_ret
              rw [HF.out]
              exact ⟨_, rfl, lit_post (below_alloc _ _) [o] (by intro x hx; simp only [List.mem_cons, List.not_mem_nil, or_false] at hx; rcases hx with rfl <;> (apply in64_of <;> omega)) (by simp) _ _ rfl (by simp) _ rfl⟩
            · have hc5' : (n == 0) = false := by simpa using hc5
              clear hc5
              have HF : Hid (offsetS ⟨3, row, at_, n, nodes, slot, old, text⟩ o false = [o]) := by
                show _ = _
                unfold offsetS
                repeat' split
                all_goals first | rfl | (exfalso; simp_all; done) | (exfalso; simp_all; omega) | (simp; done) | (simp; omega)
              go_enter Try.func44, Try.ntmps44
              go_wp2_with fail
              go_ret
              rw [HF.out]
              exact ⟨_, rfl, lit_post (below_alloc _ _) [o] (by intro x hx; simp only [List.mem_cons, List.not_mem_nil, or_false] at hx; rcases hx with rfl <;> (apply in64_of <;> omega)) (by simp) _ _ rfl (by simp) _ rfl⟩
        · have hq3 : (o == at_) = false := by simp; omega
          by_cases hd4 : o < at_ + n
          · skip
            have HF : Hid (offsetS ⟨3, row, at_, n, nodes, slot, old, text⟩ o after = [at_, slot, o - at_]) := by
              show _ = _
              unfold offsetS
              repeat' split
              all_goals first | rfl | (exfalso; simp_all; done) | (exfalso; simp_all; omega) | (simp; done) | (simp; omega)
            go_enter Try.func44, Try.ntmps44
            go_wp2_with fail
            go_ret
            rw [HF.out]
            exact ⟨_, rfl, lit_post (below_alloc _ _) [at_, slot, o - at_] (by intro x hx; simp only [List.mem_cons, List.not_mem_nil, or_false] at hx; rcases hx with rfl | rfl | rfl <;> (apply in64_of <;> omega)) (by simp) _ _ rfl (by simp) _ rfl⟩
          · have hd4' := Int.not_lt.1 hd4
            clear hd4
            have HF : Hid (offsetS ⟨3, row, at_, n, nodes, slot, old, text⟩ o after = [o - n + 1]) := by
              show _ = _
              unfold offsetS
              repeat' split
              all_goals first | rfl | (exfalso; simp_all; done) | (exfalso; simp_all; omega) | (simp; done) | (simp; omega)
            go_enter Try.func44, Try.ntmps44
            go_wp2_with fail
            go_ret
            rw [HF.out]
            exact ⟨_, rfl, lit_post (below_alloc _ _) [o - n + 1] (by intro x hx; simp only [List.mem_cons, List.not_mem_nil, or_false] at hx; rcases hx with rfl <;> (apply in64_of <;> omega)) (by simp) _ _ rfl (by simp) _ rfl⟩
      · have hc2' : (kind == 3) = false := by simpa using hc2
        clear hc2
        by_cases hc3 : kind = 4
        · subst hc3
          by_cases hd4 : at_ < o
          · skip
            have HF : Hid (offsetS ⟨4, row, at_, n, nodes, slot, old, text⟩ o after = [o - 1 + n]) := by
              show _ = _
              unfold offsetS
              repeat' split
              all_goals first | rfl | (exfalso; simp_all; done) | (exfalso; simp_all; omega) | (simp; done) | (simp; omega)
            go_enter Try.func44, Try.ntmps44
            go_wp2_with fail
            go_ret
            rw [HF.out]
            exact ⟨_, rfl, lit_post (below_alloc _ _) [o - 1 + n] (by intro x hx; simp only [List.mem_cons, List.not_mem_nil, or_false] at hx; rcases hx with rfl <;> (apply in64_of <;> omega)) (by simp) _ _ rfl (by simp) _ rfl⟩
          · have hd4' := Int.not_lt.1 hd4
            clear hd4
            have HF : Hid (offsetS ⟨4, row, at_, n, nodes, slot, old, text⟩ o after = [o]) := by
              show _ = _
              unfold offsetS
              repeat' split
              all_goals first | rfl | (exfalso; simp_all; done) | (exfalso; simp_all; omega) | (simp; done) | (simp; omega)
            go_enter Try.func44, Try.ntmps44
            go_wp2_with fail
            go_ret
            rw [HF.out]
            exact ⟨_, rfl, lit_post (below_alloc _ _) [o] (by intro x hx; simp only [List.mem_cons, List.not_mem_nil, or_false] at hx; rcases hx with rfl <;> (apply in64_of <;> omega)) (by simp) _ _ rfl (by simp) _ rfl⟩
        · have hc3' : (kind == 4) = false := by simpa using hc3
          clear hc3
          have HF : Hid (offsetS ⟨kind, row, at_, n, nodes, slot, old, text⟩ o after = [o]) := by
            show _ = _
            unfold offsetS
            repeat' split
            all_goals first | rfl | (exfalso; simp_all; done) | (exfalso; simp_all; omega) | (simp; done) | (simp; omega)
          go_enter Try.func44, Try.ntmps44
          go_wp2_with fail
          go_ret
          rw [HF.out]
          exact ⟨_, rfl, lit_post (below_alloc _ _) [o] (by intro x hx; simp only [List.mem_cons, List.not_mem_nil, or_false] at hx; rcases hx with rfl <;> (apply in64_of <;> omega)) (by simp) _ _ rfl (by simp) _ rfl⟩

end Go.Proofs.Yteckkamlaibjbaa
