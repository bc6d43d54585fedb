/- ref13.Lost: every test decided ahead of the walk. Written by wip/gen13l.py. -/
import Derived.Test.YteckkamlaibjbaaRef13M
import Derived.Deep.QuietTactic
import Derived.BigQuiet
set_option linter.unusedVariables false
set_option linter.unusedSimpArgs false
namespace Go.Proofs.Yteckkamlaibjbaa
open Go.RowKit

def refLostS (op : OpD) (pos : List Int) : Bool :=
  if withinS pos op.row = true then
    (if op.kind = 2 then (if pos.length = op.row.length + 1 then decide (op.at_ < pos.getD op.row.length 0 ∧ pos.getD op.row.length 0 < op.at_ + op.nodes.length) else decide (op.at_ ≤ pos.getD op.row.length 0 ∧ pos.getD op.row.length 0 < op.at_ + op.nodes.length))
     else if op.kind = 4 then decide (op.row.length + 1 < pos.length ∧ pos.getD op.row.length 0 = op.at_ ∧ pos.getD (op.row.length + 1) 0 ≠ op.slot) else false)
  else false

set_option maxHeartbeats 1000000 in
theorem reflost_no (op : OpD) (pos : List Int) (Ar An Ap : Option Addr) (cr cn cp : Nat) (w : World) (hop : op.Ok) (hr : IntsR w (Lt w.heap.size) op.row (.slice Ar op.row.length cr)) (hpos : IntsR w (Lt w.heap.size) pos (.slice Ap pos.length cp)) (hpl : pos.length ≤ 100000)
    (hw : withinS pos op.row = false) :
    Calls Try.prog 25 #[.agg (opC op (.slice Ar op.row.length cr) (.slice An op.nodes.length cn)), .slice Ap pos.length cp] w fun e w' => e = .returned (.bool false) ∧ Below w.heap.size w w' := by
  have hrl := hop.row
  have HW : Hid (∀ W, Below w.heap.size w W → Calls Try.prog 43 #[.slice Ap pos.length cp, .slice Ar op.row.length cr] W fun e w' => e = .returned (.bool false) ∧ ∃ n, w' = W.drewN n) := by
    intro W hW
    have := within_q pos op.row W _ _ _ _ (hpos.below hW (Nat.le_refl _)) (hr.below hW (Nat.le_refl _)) (by omega)
    rw [hw] at this
    exact this
  obtain ⟨kind, row, at_, n, nodes, slot, old, text⟩ := op
  simp only [opC] at *
  clear hop hr hpos hw
  go_enter Try.func25, Try.ntmps25
  go_wp2_with fail
  refine (HW.out _ (below_alloc _ _)).mono ?_
  rintro e w1 ⟨rfl, nq, rfl⟩
  go_wp2_with fail
  go_ret
  exact ⟨rfl, below_draw (below_alloc _ _) _⟩

set_option maxHeartbeats 4000000 in
set_option maxRecDepth 100000 in
theorem reflost_yes (op : OpD) (pos : List Int) (Ar An Ap : Option Addr) (cr cn cp : Nat) (w : World) (hop : op.Ok) (hr : IntsR w (Lt w.heap.size) op.row (.slice Ar op.row.length cr)) (hpos : IntsR w (Lt w.heap.size) pos (.slice Ap pos.length cp)) (hpl : pos.length ≤ 100000)
    (hb : ∀ x ∈ pos, Bd 1152921504606846976 x) (hw : withinS pos op.row = true) :
    Calls Try.prog 25 #[.agg (opC op (.slice Ar op.row.length cr) (.slice An op.nodes.length cn)), .slice Ap pos.length cp] w fun e w' => e = .returned (.bool (refLostS op pos)) ∧ Below w.heap.size w w' := by
  have hrl := hop.row
  have HW : Hid (∀ W, Below w.heap.size w W → Calls Try.prog 43 #[.slice Ap pos.length cp, .slice Ar op.row.length cr] W fun e w' => e = .returned (.bool true) ∧ ∃ n, w' = W.drewN n) := by
    intro W hW
    have := within_q pos op.row W _ _ _ _ (hpos.below hW (Nat.le_refl _)) (hr.below hW (Nat.le_refl _)) (by omega)
    rw [hw] at this
    exact this
  have hlt : op.row.length < pos.length ∧ pos.length ≠ op.row.length + 2 := by unfold withinS at hw; simp only [decide_eq_true_eq] at hw; exact ⟨hw.1, hw.2.2⟩
  obtain ⟨hlt, hne2⟩ := hlt
  have hx : pos.getD op.row.length 0 = pos[op.row.length] := by rw [List.getD_eq_getElem?_getD, List.getElem?_eq_getElem hlt]; rfl
  have HF : Hid (refLostS op pos = if op.kind = 2 then (if pos.length = op.row.length + 1 then decide (op.at_ < pos[op.row.length] ∧ pos[op.row.length] < op.at_ + op.nodes.length) else decide (op.at_ ≤ pos[op.row.length] ∧ pos[op.row.length] < op.at_ + op.nodes.length))
     else if op.kind = 4 then decide (op.row.length + 1 < pos.length ∧ pos[op.row.length] = op.at_ ∧ pos.getD (op.row.length + 1) 0 ≠ op.slot) else false) := by
    show _ = _; unfold refLostS; rw [if_pos hw, hx]
  obtain ⟨A, cap, rs, e, h1, h2, hrd, hls⟩ := hpos
  injection e with q1 q2 q3
  subst q1 q3
  obtain ⟨g, o, rfl, hg, hi, c0⟩ := ints_at hrd hls hlt
  have hg' : g < w.heap.size := hg
  have HD : Hid (∀ h : op.row.length + 1 < pos.length, w.cell? ⟨g, o + (op.row.length + 1), none⟩ = some (.int .i64 (pos.getD (op.row.length + 1) 0))) := by
    intro h
    obtain ⟨g', o', e', hgg, hi', c1⟩ := ints_at hrd hls h
    injection e' with e'
    injection e' with e1' e2'
    subst e1' e2'
    rw [List.getD_eq_getElem?_getD, List.getElem?_eq_getElem h]; exact c1
  obtain ⟨hxb1, hxb2⟩ := hb pos[op.row.length] (List.getElem_mem _)
  generalize pos.getD (op.row.length + 1) 0 = y at *
  generalize hxx : pos[op.row.length] = x at *
  obtain ⟨⟨hat1, hat2⟩, hn, hslot, hnl, hrl'⟩ := hop
  obtain ⟨kind, row, at_, n, nodes, slot, old, text⟩ := op
  simp only [opC] at *
  have hr9 : row.length ≤ 1000 := hrl'
  have hlt9 : row.length < pos.length := hlt
  have hne9 : pos.length ≠ row.length + 2 := hne2
  have hr2 : (row.length : Int) < (pos.length : Int) := by omega
  have hw2 : IntKind.i64.wrap ((row.length : Int) + 1) = (row.length : Int) + 1 := IntWalk.i64_in _ (by omega)
  have ht1 : ((row.length : Int) + 1).toNat = row.length + 1 := by omega
  have hp1 : (0 : Int) ≤ (row.length : Int) + 1 := by omega
  have HB : Hid (Below w.heap.size w (w.alloc (Obj.cells #[.int .i64 kind, .slice Ar row.length cr, .int .i64 at_, .int .i64 n, .slice An nodes.length cn, .int .i64 slot, .string old, .string text] 27))) := below_alloc _ _
  clear hr hw hrd hls q2 hg hi hb hx hxx h1 h2 hslot hn
  by_cases hk2 : kind = 2
  · subst hk2
    by_cases hl : pos.length = row.length + 1
    · have hl1 : ((pos.length : Int) == (row.length : Int) + 1) = true := by simp; omega
      by_cases ha : at_ < x
      · by_cases hc : x < at_ + (nodes.length : Int)
        · have hfin : refLostS ⟨2, row, at_, n, nodes, slot, old, text⟩ pos = true := by rw [HF.out]; simp [hl, ha, hc]
          clear hl
          have HG := hid hfin
          clear hfin
          go_enter Try.func25, Try.ntmps25
          go_wp2_with fail
          refine (HW.out _ (below_alloc _ _)).mono ?_
          rintro e w1 ⟨rfl, nq, rfl⟩
          go_wp2_with fail
          go_ret
          exact ⟨by rw [HG.out]; rfl, by first | exact below_draw (below_alloc _ _) _ | (simp only [World.drewN_drewN]; exact below_draw (below_alloc _ _) _)⟩
        · have hfin : refLostS ⟨2, row, at_, n, nodes, slot, old, text⟩ pos = false := by rw [HF.out]; simp [hl]; omega
          have hc' : decide (x < at_ + (nodes.length : Int)) = false := decide_eq_false hc
          clear hl hc
          have HG := hid hfin
          clear hfin
          go_enter Try.func25, Try.ntmps25
          go_wp2_with fail
          refine (HW.out _ (below_alloc _ _)).mono ?_
          rintro e w1 ⟨rfl, nq, rfl⟩
          go_wp2_with fail
          go_ret
          exact ⟨by rw [HG.out]; rfl, by first | exact below_draw (below_alloc _ _) _ | (simp only [World.drewN_drewN]; exact below_draw (below_alloc _ _) _)⟩
      · have hfin : refLostS ⟨2, row, at_, n, nodes, slot, old, text⟩ pos = false := by rw [HF.out]; simp [hl]; omega
        have ha' := Int.not_lt.1 ha
        clear hl ha
        have HG := hid hfin
        clear hfin
        go_enter Try.func25, Try.ntmps25
        go_wp2_with fail
        refine (HW.out _ (below_alloc _ _)).mono ?_
        rintro e w1 ⟨rfl, nq, rfl⟩
        go_wp2_with fail
        go_ret
        exact ⟨by rw [HG.out]; rfl, by first | exact below_draw (below_alloc _ _) _ | (simp only [World.drewN_drewN]; exact below_draw (below_alloc _ _) _)⟩
    · have hl1 : ((pos.length : Int) == (row.length : Int) + 1) = false := by simp; omega
      by_cases ha : at_ ≤ x
      · by_cases hc : x < at_ + (nodes.length : Int)
        · have hfin : refLostS ⟨2, row, at_, n, nodes, slot, old, text⟩ pos = true := by rw [HF.out]; simp [hl, ha, hc]
          clear hl
          have HG := hid hfin
          clear hfin
          go_enter Try.func25, Try.ntmps25
          go_wp2_with fail
          refine (HW.out _ (below_alloc _ _)).mono ?_
          rintro e w1 ⟨rfl, nq, rfl⟩
          go_wp2_with fail
          go_ret
          exact ⟨by rw [HG.out]; rfl, by first | exact below_draw (below_alloc _ _) _ | (simp only [World.drewN_drewN]; exact below_draw (below_alloc _ _) _)⟩
        · have hfin : refLostS ⟨2, row, at_, n, nodes, slot, old, text⟩ pos = false := by rw [HF.out]; simp [hl]; omega
          have hc' : decide (x < at_ + (nodes.length : Int)) = false := decide_eq_false hc
          clear hl hc
          have HG := hid hfin
          clear hfin
          go_enter Try.func25, Try.ntmps25
          go_wp2_with fail
          refine (HW.out _ (below_alloc _ _)).mono ?_
          rintro e w1 ⟨rfl, nq, rfl⟩
          go_wp2_with fail
          go_ret
          exact ⟨by rw [HG.out]; rfl, by first | exact below_draw (below_alloc _ _) _ | (simp only [World.drewN_drewN]; exact below_draw (below_alloc _ _) _)⟩
      · have hfin : refLostS ⟨2, row, at_, n, nodes, slot, old, text⟩ pos = false := by rw [HF.out]; simp [hl]; omega
        have ha' := Int.not_le.1 ha
        clear hl ha
        have HG := hid hfin
        clear hfin
        go_enter Try.func25, Try.ntmps25
        go_wp2_with fail
        refine (HW.out _ (below_alloc _ _)).mono ?_
        rintro e w1 ⟨rfl, nq, rfl⟩
        go_wp2_with fail
        go_ret
        exact ⟨by rw [HG.out]; rfl, by first | exact below_draw (below_alloc _ _) _ | (simp only [World.drewN_drewN]; exact below_draw (below_alloc _ _) _)⟩
  have e2 : (kind == 2) = false := by simpa using hk2
  by_cases hk4 : kind = 4
  · subst hk4
    by_cases hl : row.length + 1 < pos.length
    · have hl1 : (row.length : Int) + 1 < (pos.length : Int) := by omega
      have c1 := HD.out hl
      by_cases ha : x = at_
      · have ha1 : (x == at_) = true := by simpa using ha
        by_cases hs : y = slot
        · have hs1 : (y != slot) = false := by simpa using hs
          have hfin : refLostS ⟨4, row, at_, n, nodes, slot, old, text⟩ pos = false := by rw [HF.out]; simp [hs]
          clear hs ha hl hk2
          have HG := hid hfin
          clear hfin
          go_enter Try.func25, Try.ntmps25
          go_wp2_with fail
          refine (HW.out _ (below_alloc _ _)).mono ?_
          rintro e w1 ⟨rfl, nq, rfl⟩
          go_wp2_with fail
          go_quiet (fail)
          go_wp2_with fail
          go_ret
          exact ⟨by rw [HG.out]; rfl, by first | exact below_draw (below_alloc _ _) _ | (simp only [World.drewN_drewN]; exact below_draw (below_alloc _ _) _)⟩
        · have hs1 : (y != slot) = true := by simpa using hs
          have hfin : refLostS ⟨4, row, at_, n, nodes, slot, old, text⟩ pos = true := by rw [HF.out]; simp [hs, ha, hl]
          clear hs ha hl hk2
          have HG := hid hfin
          clear hfin
          go_enter Try.func25, Try.ntmps25
          go_wp2_with fail
          refine (HW.out _ (below_alloc _ _)).mono ?_
          rintro e w1 ⟨rfl, nq, rfl⟩
          go_wp2_with fail
          go_quiet (fail)
          go_wp2_with fail
          go_ret
          exact ⟨by rw [HG.out]; rfl, by first | exact below_draw (below_alloc _ _) _ | (simp only [World.drewN_drewN]; exact below_draw (below_alloc _ _) _)⟩
      · have ha1 : (x == at_) = false := by simpa using ha
        have hfin : refLostS ⟨4, row, at_, n, nodes, slot, old, text⟩ pos = false := by rw [HF.out]; simp [ha]
        clear ha hl hk2
        have HG := hid hfin
        clear hfin
        go_enter Try.func25, Try.ntmps25
        go_wp2_with fail
        refine (HW.out _ (below_alloc _ _)).mono ?_
        rintro e w1 ⟨rfl, nq, rfl⟩
        go_wp2_with fail
        go_quiet (fail)
        go_wp2_with fail
        go_ret
        exact ⟨by rw [HG.out]; rfl, by first | exact below_draw (below_alloc _ _) _ | (simp only [World.drewN_drewN]; exact below_draw (below_alloc _ _) _)⟩
    · have hl1 : (pos.length : Int) ≤ (row.length : Int) + 1 := by omega
      have hfin : refLostS ⟨4, row, at_, n, nodes, slot, old, text⟩ pos = false := by rw [HF.out]; simp; intro h; omega
      have hl2 : decide ((row.length : Int) + 1 < (pos.length : Int)) = false := by simp; omega
      clear hl hk2
      have HG := hid hfin
      clear hfin
      go_enter Try.func25, Try.ntmps25
      go_wp2_with fail
      refine (HW.out _ (below_alloc _ _)).mono ?_
      rintro e w1 ⟨rfl, nq, rfl⟩
      go_wp2_with fail
      go_quiet (fail)
      go_wp2_with fail
      go_ret
      exact ⟨by rw [HG.out]; rfl, by first | exact below_draw (below_alloc _ _) _ | (simp only [World.drewN_drewN]; exact below_draw (below_alloc _ _) _)⟩
  have e4 : (kind == 4) = false := by simpa using hk4
  have hfin : refLostS ⟨kind, row, at_, n, nodes, slot, old, text⟩ pos = false := by rw [HF.out]; simp [hk2, hk4]
  clear hk2 hk4
  have HG := hid hfin
  clear hfin
  go_enter Try.func25, Try.ntmps25
  go_wp2_with fail
  refine (HW.out _ (below_alloc _ _)).mono ?_
  rintro e w1 ⟨rfl, nq, rfl⟩
  go_wp2_with fail
  go_ret
  exact ⟨by rw [HG.out]; rfl, by first | exact below_draw (below_alloc _ _) _ | (simp only [World.drewN_drewN]; exact below_draw (below_alloc _ _) _)⟩

theorem reflost_any (op : OpD) (pos : List Int) (Ar An Ap : Option Addr) (cr cn cp : Nat) (w : World) (hop : op.Ok) (hr : IntsR w (Lt w.heap.size) op.row (.slice Ar op.row.length cr)) (hpos : IntsR w (Lt w.heap.size) pos (.slice Ap pos.length cp)) (hpl : pos.length ≤ 100000)
    (hb : ∀ x ∈ pos, Bd 1152921504606846976 x) :
    Calls Try.prog 25 #[.agg (opC op (.slice Ar op.row.length cr) (.slice An op.nodes.length cn)), .slice Ap pos.length cp] w fun e w' => e = .returned (.bool (refLostS op pos)) ∧ Below w.heap.size w w' := by
  by_cases hw : withinS pos op.row = true
  · exact reflost_yes op pos Ar An Ap cr cn cp w hop hr hpos hpl hb hw
  · have := reflost_no op pos Ar An Ap cr cn cp w hop hr hpos hpl (by simpa using hw)
    have e : refLostS op pos = false := by unfold refLostS; rw [if_neg hw]
    rw [e]; exact this
end Go.Proofs.Yteckkamlaibjbaa
