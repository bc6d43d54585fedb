/- posmap: wrap. Written by wip/genplace.py. -/
import Derived.Test.YteckkamlaibjbaaPlaceD
import Derived.Deep.QuietTactic
import Derived.BigQuiet
set_option linter.unusedVariables false
set_option linter.unusedSimpArgs false
namespace Go.Proofs.Yteckkamlaibjbaa
open Go.RowKit

set_option maxHeartbeats 2000000 in
theorem wrap_any (p : PlaceD) (after : Bool) (Ar An As : Option Addr) (lr cr ln cn cs : Nat) (w : World) (hp : p.Ok) (hs : IntsR w (Lt w.heap.size) p.rest (.slice As p.rest.length cs)) :
    Calls Try.prog 60 #[.agg (placeC p (.slice Ar lr cr) (.slice An ln cn) (.slice As p.rest.length cs)), .bool after] w (IntsPost w (wrapS p after)) := by
  have H := hid (And.intro hp hs)
  obtain ⟨hat, hn, hslot, hk, hidx, hsl, hrest, hrlen, hne⟩ := hp
  unfold Bd at hat hn hslot hidx hsl
  obtain ⟨hat1, hat2⟩ := hat
  obtain ⟨hidx1, hidx2⟩ := hidx
  obtain ⟨hn1, hn2⟩ := hn
  obtain ⟨hos1, hos2⟩ := hslot
  obtain ⟨hs1, hs2⟩ := hsl
  have hne' := hid hne
  clear hrest hrlen hne hs
  obtain ⟨⟨kind, row, at_, n, nodes, oslot, old, text⟩, k, index, inside, slot, rest⟩ := p
  simp only [placeC] at *
  rcases Int.lt_trichotomy index at_ with hlt | heq | hgt
  · have heq : (index == at_) = false := by simp; omega
    have hfin : wrapS ⟨⟨kind, row, at_, n, nodes, oslot, old, text⟩, k, index, inside, slot, rest⟩ after = behindS ⟨⟨kind, row, at_, n, nodes, oslot, old, text⟩, k, index, inside, slot, rest⟩ [index] := by unfold wrapS; rw [if_neg (by simp; omega), if_pos (Or.inl hlt)]
    cases inside
    · skip
      have HF := hid hfin
      clear hfin
      go_enter Try.func60, Try.ntmps60
      go_wp2_with fail
      go_quiet (fail)
      go_wp2_with fail
      refine (behind_lit _ Ar An As lr cr ln cn cs w _ H.out.1 H.out.2 (by first | exact below_alloc _ _ | exact below_draw (below_alloc _ _) _) [index] (by intro x hx; simp only [List.mem_cons, List.not_mem_nil, or_false] at hx; rcases hx with rfl <;> (apply in64_of <;> omega)) (by simp) _ _ rfl (by simp) _ rfl).mono ?_
      rintro e w1 ⟨v1, rfl, hv1, hb1⟩
      have HV := hid hv1
      have HB := hid hb1
      clear hv1 hb1
      go_wp2_with fail
      go_ret
      rw [HF.out]
      exact ⟨_, rfl, HV.out, HB.out⟩
    · skip
      have HF := hid hfin
      clear hfin
      go_enter Try.func60, Try.ntmps60
      go_wp2_with fail
      go_quiet (fail)
      go_wp2_with fail
      refine (behind_lit _ Ar An As lr cr ln cn cs w _ H.out.1 H.out.2 (by first | exact below_alloc _ _ | exact below_draw (below_alloc _ _) _) [index] (by intro x hx; simp only [List.mem_cons, List.not_mem_nil, or_false] at hx; rcases hx with rfl <;> (apply in64_of <;> omega)) (by simp) _ _ rfl (by simp) _ rfl).mono ?_
      rintro e w1 ⟨v1, rfl, hv1, hb1⟩
      have HV := hid hv1
      have HB := hid hb1
      clear hv1 hb1
      go_wp2_with fail
      go_ret
      rw [HF.out]
      exact ⟨_, rfl, HV.out, HB.out⟩
  · subst heq
    cases inside with
    | false =>
      by_cases hn0 : n = 0
      · subst hn0
        cases after with
        | true =>
          have hfin : wrapS ⟨⟨kind, row, index, 0, nodes, oslot, old, text⟩, k, index, false, slot, rest⟩ true = [index + 1] := by unfold wrapS; rw [if_pos ⟨rfl, rfl, rfl, rfl⟩]
          have HF := hid hfin
          clear hfin
          go_enter Try.func60, Try.ntmps60
          go_wp2_with fail
          go_quiet (fail)
          go_wp2_with fail
          go_ret
          rw [HF.out]
          exact ⟨_, rfl, lit_post (by first | exact below_alloc _ _ | exact below_draw (below_alloc _ _) _) [index + 1] (by intro x hx; simp only [List.mem_cons, List.not_mem_nil, or_false] at hx; rcases hx with rfl <;> (apply in64_of <;> omega)) (by simp) _ _ rfl (by simp) _ rfl⟩
        | false =>
          have hfin : wrapS ⟨⟨kind, row, index, 0, nodes, oslot, old, text⟩, k, index, false, slot, rest⟩ false = behindS ⟨⟨kind, row, index, 0, nodes, oslot, old, text⟩, k, index, false, slot, rest⟩ [index] := by unfold wrapS; rw [if_neg (by simp), if_pos (Or.inr ⟨rfl, rfl⟩)]
          have HF := hid hfin
          clear hfin
          go_enter Try.func60, Try.ntmps60
          go_wp2_with fail
          go_quiet (fail)
          go_wp2_with fail
          refine (behind_lit _ Ar An As lr cr ln cn cs w _ H.out.1 H.out.2 (by first | exact below_alloc _ _ | exact below_draw (below_alloc _ _) _) [index] (by intro x hx; simp only [List.mem_cons, List.not_mem_nil, or_false] at hx; rcases hx with rfl <;> (apply in64_of <;> omega)) (by simp) _ _ rfl (by simp) _ rfl).mono ?_
          rintro e w1 ⟨v1, rfl, hv1, hb1⟩
          have HV := hid hv1
          have HB := hid hb1
          clear hv1 hb1
          go_wp2_with fail
          go_ret
          rw [HF.out]
          exact ⟨_, rfl, HV.out, HB.out⟩
      · have hn1 : (n == 0) = false := by simpa using hn0
        have hfin : wrapS ⟨⟨kind, row, index, n, nodes, oslot, old, text⟩, k, index, false, slot, rest⟩ after = behindS ⟨⟨kind, row, index, n, nodes, oslot, old, text⟩, k, index, false, slot, rest⟩ [index] := by unfold wrapS; rw [if_neg (by simp [hn0]), if_pos (Or.inr ⟨rfl, rfl⟩)]
        clear hn0
        have HF := hid hfin
        clear hfin
        go_enter Try.func60, Try.ntmps60
        go_wp2_with fail
        go_quiet (fail)
        go_wp2_with fail
        refine (behind_lit _ Ar An As lr cr ln cn cs w _ H.out.1 H.out.2 (by first | exact below_alloc _ _ | exact below_draw (below_alloc _ _) _) [index] (by intro x hx; simp only [List.mem_cons, List.not_mem_nil, or_false] at hx; rcases hx with rfl <;> (apply in64_of <;> omega)) (by simp) _ _ rfl (by simp) _ rfl).mono ?_
        rintro e w1 ⟨v1, rfl, hv1, hb1⟩
        have HV := hid hv1
        have HB := hid hb1
        clear hv1 hb1
        go_wp2_with fail
        go_ret
        rw [HF.out]
        exact ⟨_, rfl, HV.out, HB.out⟩
    | true =>
      by_cases hk0 : index < index + n
      · have hfin : wrapS ⟨⟨kind, row, index, n, nodes, oslot, old, text⟩, k, index, true, slot, rest⟩ after = behindS ⟨⟨kind, row, index, n, nodes, oslot, old, text⟩, k, index, true, slot, rest⟩ [index, oslot, 0] := by unfold wrapS; rw [if_neg (by simp), if_neg (by simp), if_pos hk0]; simp
        have hd : decide (index < index + n) = true := by simpa using hk0
        have HF := hid hfin
        clear hfin
        go_enter Try.func60, Try.ntmps60
        go_wp2_with fail
        go_quiet (fail)
        go_wp2_with fail
        refine (behind_lit _ Ar An As lr cr ln cn cs w _ H.out.1 H.out.2 (by first | exact below_alloc _ _ | exact below_draw (below_alloc _ _) _) [index, oslot, 0] (by intro x hx; simp only [List.mem_cons, List.not_mem_nil, or_false] at hx; rcases hx with rfl | rfl | rfl <;> (apply in64_of <;> omega)) (by simp) _ _ rfl (by simp) _ rfl).mono ?_
        rintro e w1 ⟨v1, rfl, hv1, hb1⟩
        have HV := hid hv1
        have HB := hid hb1
        clear hv1 hb1
        go_wp2_with fail
        go_ret
        rw [HF.out]
        exact ⟨_, rfl, HV.out, HB.out⟩
      · have hfin : wrapS ⟨⟨kind, row, index, n, nodes, oslot, old, text⟩, k, index, true, slot, rest⟩ after = behindS ⟨⟨kind, row, index, n, nodes, oslot, old, text⟩, k, index, true, slot, rest⟩ [index - n + 1] := by unfold wrapS; rw [if_neg (by simp), if_neg (by simp), if_neg hk0]
        have hd : decide (index < index + n) = false := by simpa using hk0
        have HF := hid hfin
        clear hfin
        go_enter Try.func60, Try.ntmps60
        go_wp2_with fail
        go_quiet (fail)
        go_wp2_with fail
        refine (behind_lit _ Ar An As lr cr ln cn cs w _ H.out.1 H.out.2 (by first | exact below_alloc _ _ | exact below_draw (below_alloc _ _) _) [index - n + 1] (by intro x hx; simp only [List.mem_cons, List.not_mem_nil, or_false] at hx; rcases hx with rfl <;> (apply in64_of <;> omega)) (by simp) _ _ rfl (by simp) _ rfl).mono ?_
        rintro e w1 ⟨v1, rfl, hv1, hb1⟩
        have HV := hid hv1
        have HB := hid hb1
        clear hv1 hb1
        go_wp2_with fail
        go_ret
        rw [HF.out]
        exact ⟨_, rfl, HV.out, HB.out⟩
  · have heq : (index == at_) = false := by simp; omega
    have hnlt : decide (index < at_) = false := by simp; omega
    by_cases hk0 : index < at_ + n
    · have hfin : wrapS ⟨⟨kind, row, at_, n, nodes, oslot, old, text⟩, k, index, inside, slot, rest⟩ after = behindS ⟨⟨kind, row, at_, n, nodes, oslot, old, text⟩, k, index, inside, slot, rest⟩ [at_, oslot, index - at_] := by unfold wrapS; rw [if_neg (by simp; omega), if_neg (by simp; omega), if_pos hk0]
      cases inside
      · skip
        have HF := hid hfin
        clear hfin
        go_enter Try.func60, Try.ntmps60
        go_wp2_with fail
        go_quiet (fail)
        go_wp2_with fail
        refine (behind_lit _ Ar An As lr cr ln cn cs w _ H.out.1 H.out.2 (by first | exact below_alloc _ _ | exact below_draw (below_alloc _ _) _) [at_, oslot, index - at_] (by intro x hx; simp only [List.mem_cons, List.not_mem_nil, or_false] at hx; rcases hx with rfl | rfl | rfl <;> (apply in64_of <;> omega)) (by simp) _ _ rfl (by simp) _ rfl).mono ?_
        rintro e w1 ⟨v1, rfl, hv1, hb1⟩
        have HV := hid hv1
        have HB := hid hb1
        clear hv1 hb1
        go_wp2_with fail
        go_ret
        rw [HF.out]
        exact ⟨_, rfl, HV.out, HB.out⟩
      · skip
        have HF := hid hfin
        clear hfin
        go_enter Try.func60, Try.ntmps60
        go_wp2_with fail
        go_quiet (fail)
        go_wp2_with fail
        refine (behind_lit _ Ar An As lr cr ln cn cs w _ H.out.1 H.out.2 (by first | exact below_alloc _ _ | exact below_draw (below_alloc _ _) _) [at_, oslot, index - at_] (by intro x hx; simp only [List.mem_cons, List.not_mem_nil, or_false] at hx; rcases hx with rfl | rfl | rfl <;> (apply in64_of <;> omega)) (by simp) _ _ rfl (by simp) _ rfl).mono ?_
        rintro e w1 ⟨v1, rfl, hv1, hb1⟩
        have HV := hid hv1
        have HB := hid hb1
        clear hv1 hb1
        go_wp2_with fail
        go_ret
        rw [HF.out]
        exact ⟨_, rfl, HV.out, HB.out⟩
    · have hfin : wrapS ⟨⟨kind, row, at_, n, nodes, oslot, old, text⟩, k, index, inside, slot, rest⟩ after = behindS ⟨⟨kind, row, at_, n, nodes, oslot, old, text⟩, k, index, inside, slot, rest⟩ [index - n + 1] := by unfold wrapS; rw [if_neg (by simp; omega), if_neg (by simp; omega), if_neg hk0]
      cases inside
      · skip
        have HF := hid hfin
        clear hfin
        go_enter Try.func60, Try.ntmps60
        go_wp2_with fail
        go_quiet (fail)
        go_wp2_with fail
        refine (behind_lit _ Ar An As lr cr ln cn cs w _ H.out.1 H.out.2 (by first | exact below_alloc _ _ | exact below_draw (below_alloc _ _) _) [index - n + 1] (by intro x hx; simp only [List.mem_cons, List.not_mem_nil, or_false] at hx; rcases hx with rfl <;> (apply in64_of <;> omega)) (by simp) _ _ rfl (by simp) _ rfl).mono ?_
        rintro e w1 ⟨v1, rfl, hv1, hb1⟩
        have HV := hid hv1
        have HB := hid hb1
        clear hv1 hb1
        go_wp2_with fail
        go_ret
        rw [HF.out]
        exact ⟨_, rfl, HV.out, HB.out⟩
      · skip
        have HF := hid hfin
        clear hfin
        go_enter Try.func60, Try.ntmps60
        go_wp2_with fail
        go_quiet (fail)
        go_wp2_with fail
        refine (behind_lit _ Ar An As lr cr ln cn cs w _ H.out.1 H.out.2 (by first | exact below_alloc _ _ | exact below_draw (below_alloc _ _) _) [index - n + 1] (by intro x hx; simp only [List.mem_cons, List.not_mem_nil, or_false] at hx; rcases hx with rfl <;> (apply in64_of <;> omega)) (by simp) _ _ rfl (by simp) _ rfl).mono ?_
        rintro e w1 ⟨v1, rfl, hv1, hb1⟩
        have HV := hid hv1
        have HB := hid hb1
        clear hv1 hb1
        go_wp2_with fail
        go_ret
        rw [HF.out]
        exact ⟨_, rfl, HV.out, HB.out⟩

end Go.Proofs.Yteckkamlaibjbaa
