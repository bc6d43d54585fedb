/- posmap: insert, remove. Written by wip/genplace.py. -/
import Derived.Test.YteckkamlaibjbaaPlaceD
import Derived.Deep.QuietTactic
import Derived.BigQuiet
set_option linter.unusedVariables false
set_option linter.unusedSimpArgs false
namespace Go.Proofs.Yteckkamlaibjbaa
open Go.RowKit

set_option maxHeartbeats 2000000 in
theorem insert_any (p : PlaceD) (after : Bool) (Ar An As : Option Addr) (lr cr ln cn cs : Nat) (w : World) (hp : p.Ok) (hs : IntsR w (Lt w.heap.size) p.rest (.slice As p.rest.length cs)) :
    Calls Try.prog 58 #[.agg (placeC p (.slice Ar lr cr) (.slice An ln cn) (.slice As p.rest.length cs)), .bool after] w (IntsPost w (insertS p after)) := by
  have H := hid (And.intro hp hs)
  obtain ⟨hat, hn, hslot, hk, hidx, hsl, hrest, hrlen, hne⟩ := hp
  unfold Bd at hat hn hslot hidx hsl
  obtain ⟨hat1, hat2⟩ := hat
  obtain ⟨hidx1, hidx2⟩ := hidx
  obtain ⟨hn1, hn2⟩ := hn
  obtain ⟨hos1, hos2⟩ := hslot
  obtain ⟨hs1, hs2⟩ := hsl
  have hne' := hid hne
  clear hrest hrlen hne hs
  obtain ⟨⟨kind, row, at_, n, nodes, oslot, old, text⟩, k, index, inside, slot, rest⟩ := p
  simp only [placeC] at *
  rcases Int.lt_trichotomy index at_ with hlt | heq | hgt
  · have hfin : insertS ⟨⟨kind, row, at_, n, nodes, oslot, old, text⟩, k, index, inside, slot, rest⟩ after = behindS ⟨⟨kind, row, at_, n, nodes, oslot, old, text⟩, k, index, inside, slot, rest⟩ [index] := by unfold insertS; rw [if_pos (Or.inl hlt)]
    have HF := hid hfin
    clear hfin
    go_enter Try.func58, Try.ntmps58
    go_wp2_with fail
    refine (behind_lit _ Ar An As lr cr ln cn cs w _ H.out.1 H.out.2 (by first | exact below_alloc _ _ | exact below_draw (below_alloc _ _) _) [index] (by intro x hx; simp only [List.mem_cons, List.not_mem_nil, or_false] at hx; rcases hx with rfl <;> (apply in64_of <;> omega)) (by simp) _ _ rfl (by simp) _ rfl).mono ?_
    rintro e w1 ⟨v1, rfl, hv1, hb1⟩
    have HV := hid hv1
    have HB := hid hb1
    clear hv1 hb1
    go_wp2_with fail
    go_ret
    rw [HF.out]
    exact ⟨_, rfl, HV.out, HB.out⟩
  · subst heq
    cases inside with
    | false =>
      cases after with
      | false =>
        have hfin : insertS ⟨⟨kind, row, index, n, nodes, oslot, old, text⟩, k, index, false, slot, rest⟩ false = behindS ⟨⟨kind, row, index, n, nodes, oslot, old, text⟩, k, index, false, slot, rest⟩ [index] := by unfold insertS; rw [if_pos (Or.inr ⟨rfl, rfl, rfl⟩)]
        have HF := hid hfin
        clear hfin
        go_enter Try.func58, Try.ntmps58
        go_wp2_with fail
        refine (behind_lit _ Ar An As lr cr ln cn cs w _ H.out.1 H.out.2 (by first | exact below_alloc _ _ | exact below_draw (below_alloc _ _) _) [index] (by intro x hx; simp only [List.mem_cons, List.not_mem_nil, or_false] at hx; rcases hx with rfl <;> (apply in64_of <;> omega)) (by simp) _ _ rfl (by simp) _ rfl).mono ?_
        rintro e w1 ⟨v1, rfl, hv1, hb1⟩
        have HV := hid hv1
        have HB := hid hb1
        clear hv1 hb1
        go_wp2_with fail
        go_ret
        rw [HF.out]
        exact ⟨_, rfl, HV.out, HB.out⟩
      | true =>
        have hfin : insertS ⟨⟨kind, row, index, n, nodes, oslot, old, text⟩, k, index, false, slot, rest⟩ true = behindS ⟨⟨kind, row, index, n, nodes, oslot, old, text⟩, k, index, false, slot, rest⟩ [index + k] := by unfold insertS; rw [if_neg (by simp)]
        have HF := hid hfin
        clear hfin
        go_enter Try.func58, Try.ntmps58
        go_wp2_with fail
        refine (behind_lit _ Ar An As lr cr ln cn cs w _ H.out.1 H.out.2 (by first | exact below_alloc _ _ | exact below_draw (below_alloc _ _) _) [index + k] (by intro x hx; simp only [List.mem_cons, List.not_mem_nil, or_false] at hx; rcases hx with rfl <;> (apply in64_of <;> omega)) (by simp) _ _ rfl (by simp) _ rfl).mono ?_
        rintro e w1 ⟨v1, rfl, hv1, hb1⟩
        have HV := hid hv1
        have HB := hid hb1
        clear hv1 hb1
        go_wp2_with fail
        go_ret
        rw [HF.out]
        exact ⟨_, rfl, HV.out, HB.out⟩
    | true =>
      have hfin : insertS ⟨⟨kind, row, index, n, nodes, oslot, old, text⟩, k, index, true, slot, rest⟩ after = behindS ⟨⟨kind, row, index, n, nodes, oslot, old, text⟩, k, index, true, slot, rest⟩ [index + k] := by unfold insertS; rw [if_neg (by simp)]
      have HF := hid hfin
      clear hfin
      go_enter Try.func58, Try.ntmps58
      go_wp2_with fail
      refine (behind_lit _ Ar An As lr cr ln cn cs w _ H.out.1 H.out.2 (by first | exact below_alloc _ _ | exact below_draw (below_alloc _ _) _) [index + k] (by intro x hx; simp only [List.mem_cons, List.not_mem_nil, or_false] at hx; rcases hx with rfl <;> (apply in64_of <;> omega)) (by simp) _ _ rfl (by simp) _ rfl).mono ?_
      rintro e w1 ⟨v1, rfl, hv1, hb1⟩
      have HV := hid hv1
      have HB := hid hb1
      clear hv1 hb1
      go_wp2_with fail
      go_ret
      rw [HF.out]
      exact ⟨_, rfl, HV.out, HB.out⟩
  · have heq : (index == at_) = false := by simp; omega
    have hfin : insertS ⟨⟨kind, row, at_, n, nodes, oslot, old, text⟩, k, index, inside, slot, rest⟩ after = behindS ⟨⟨kind, row, at_, n, nodes, oslot, old, text⟩, k, index, inside, slot, rest⟩ [index + k] := by unfold insertS; rw [if_neg (by simp; omega)]
    have HF := hid hfin
    clear hfin
    go_enter Try.func58, Try.ntmps58
    go_wp2_with fail
    refine (behind_lit _ Ar An As lr cr ln cn cs w _ H.out.1 H.out.2 (by first | exact below_alloc _ _ | exact below_draw (below_alloc _ _) _) [index + k] (by intro x hx; simp only [List.mem_cons, List.not_mem_nil, or_false] at hx; rcases hx with rfl <;> (apply in64_of <;> omega)) (by simp) _ _ rfl (by simp) _ rfl).mono ?_
    rintro e w1 ⟨v1, rfl, hv1, hb1⟩
    have HV := hid hv1
    have HB := hid hb1
    clear hv1 hb1
    go_wp2_with fail
    go_ret
    rw [HF.out]
    exact ⟨_, rfl, HV.out, HB.out⟩

set_option maxHeartbeats 2000000 in
theorem remove_any (p : PlaceD) (Ar An As : Option Addr) (lr cr ln cn cs : Nat) (w : World) (hp : p.Ok) (hs : IntsR w (Lt w.heap.size) p.rest (.slice As p.rest.length cs)) :
    Calls Try.prog 59 #[.agg (placeC p (.slice Ar lr cr) (.slice An ln cn) (.slice As p.rest.length cs))] w (PairPost w (removeS p)) := by
  have H := hid (And.intro hp hs)
  obtain ⟨hat, hn, hslot, hk, hidx, hsl, hrest, hrlen, hne⟩ := hp
  unfold Bd at hat hn hslot hidx hsl
  obtain ⟨hat1, hat2⟩ := hat
  obtain ⟨hidx1, hidx2⟩ := hidx
  obtain ⟨hn1, hn2⟩ := hn
  obtain ⟨hos1, hos2⟩ := hslot
  obtain ⟨hs1, hs2⟩ := hsl
  have hne' := hid hne
  clear hrest hrlen hne hs
  obtain ⟨⟨kind, row, at_, n, nodes, oslot, old, text⟩, k, index, inside, slot, rest⟩ := p
  simp only [placeC] at *
  rcases Int.lt_trichotomy index at_ with hlt | heq | hgt
  · have hfin : removeS ⟨⟨kind, row, at_, n, nodes, oslot, old, text⟩, k, index, inside, slot, rest⟩ = (behindS ⟨⟨kind, row, at_, n, nodes, oslot, old, text⟩, k, index, inside, slot, rest⟩ [index], false) := by unfold removeS; rw [if_pos (Or.inl hlt)]
    have HF := hid hfin
    clear hfin
    go_enter Try.func59, Try.ntmps59
    go_wp2_with fail
    refine (behind_lit _ Ar An As lr cr ln cn cs w _ H.out.1 H.out.2 (by first | exact below_alloc _ _ | exact below_draw (below_alloc _ _) _) [index] (by intro x hx; simp only [List.mem_cons, List.not_mem_nil, or_false] at hx; rcases hx with rfl <;> (apply in64_of <;> omega)) (by simp) _ _ rfl (by simp) _ rfl).mono ?_
    rintro e w1 ⟨v1, rfl, hv1, hb1⟩
    have HV := hid hv1
    have HB := hid hb1
    clear hv1 hb1
    go_wp2_with fail
    go_ret2
    rw [HF.out]
    exact ⟨_, rfl, HV.out, HB.out⟩
  · subst heq
    cases inside with
    | false =>
      have hfin : removeS ⟨⟨kind, row, index, n, nodes, oslot, old, text⟩, k, index, false, slot, rest⟩ = (behindS ⟨⟨kind, row, index, n, nodes, oslot, old, text⟩, k, index, false, slot, rest⟩ [index], false) := by unfold removeS; rw [if_pos (Or.inr ⟨rfl, rfl⟩)]
      have HF := hid hfin
      clear hfin
      go_enter Try.func59, Try.ntmps59
      go_wp2_with fail
      refine (behind_lit _ Ar An As lr cr ln cn cs w _ H.out.1 H.out.2 (by first | exact below_alloc _ _ | exact below_draw (below_alloc _ _) _) [index] (by intro x hx; simp only [List.mem_cons, List.not_mem_nil, or_false] at hx; rcases hx with rfl <;> (apply in64_of <;> omega)) (by simp) _ _ rfl (by simp) _ rfl).mono ?_
      rintro e w1 ⟨v1, rfl, hv1, hb1⟩
      have HV := hid hv1
      have HB := hid hb1
      clear hv1 hb1
      go_wp2_with fail
      go_ret2
      rw [HF.out]
      exact ⟨_, rfl, HV.out, HB.out⟩
    | true =>
      by_cases hk0 : index < index + (k : Int)
      · have hfin : removeS ⟨⟨kind, row, index, n, nodes, oslot, old, text⟩, k, index, true, slot, rest⟩ = ([index], true) := by unfold removeS; rw [if_neg (by simp), if_pos hk0]
        have hd : decide (index < index + (k : Int)) = true := by simpa using hk0
        have HF := hid hfin
        clear hfin
        go_enter Try.func59, Try.ntmps59
        go_wp2_with fail
        go_ret2
        rw [HF.out]
        exact ⟨_, rfl, lit_post (by first | exact below_alloc _ _ | exact below_draw (below_alloc _ _) _) [index] (by intro x hx; simp only [List.mem_cons, List.not_mem_nil, or_false] at hx; rcases hx with rfl <;> (apply in64_of <;> omega)) (by simp) _ _ rfl (by simp) _ rfl⟩
      · have hfin : removeS ⟨⟨kind, row, index, n, nodes, oslot, old, text⟩, k, index, true, slot, rest⟩ = (behindS ⟨⟨kind, row, index, n, nodes, oslot, old, text⟩, k, index, true, slot, rest⟩ [index - k], false) := by unfold removeS; rw [if_neg (by simp), if_neg hk0]
        have hd : decide (index < index + (k : Int)) = false := by simpa using hk0
        have HF := hid hfin
        clear hfin
        go_enter Try.func59, Try.ntmps59
        go_wp2_with fail
        refine (behind_lit _ Ar An As lr cr ln cn cs w _ H.out.1 H.out.2 (by first | exact below_alloc _ _ | exact below_draw (below_alloc _ _) _) [index - k] (by intro x hx; simp only [List.mem_cons, List.not_mem_nil, or_false] at hx; rcases hx with rfl <;> (apply in64_of <;> omega)) (by simp) _ _ rfl (by simp) _ rfl).mono ?_
        rintro e w1 ⟨v1, rfl, hv1, hb1⟩
        have HV := hid hv1
        have HB := hid hb1
        clear hv1 hb1
        go_wp2_with fail
        go_ret2
        rw [HF.out]
        exact ⟨_, rfl, HV.out, HB.out⟩
  · have heq : (index == at_) = false := by simp; omega
    by_cases hk0 : index < at_ + (k : Int)
    · have hfin : removeS ⟨⟨kind, row, at_, n, nodes, oslot, old, text⟩, k, index, inside, slot, rest⟩ = ([at_], true) := by unfold removeS; rw [if_neg (by simp; omega), if_pos hk0]
      have HF := hid hfin
      clear hfin
      go_enter Try.func59, Try.ntmps59
      go_wp2_with fail
      go_ret2
      rw [HF.out]
      exact ⟨_, rfl, lit_post (by first | exact below_alloc _ _ | exact below_draw (below_alloc _ _) _) [at_] (by intro x hx; simp only [List.mem_cons, List.not_mem_nil, or_false] at hx; rcases hx with rfl <;> (apply in64_of <;> omega)) (by simp) _ _ rfl (by simp) _ rfl⟩
    · have hfin : removeS ⟨⟨kind, row, at_, n, nodes, oslot, old, text⟩, k, index, inside, slot, rest⟩ = (behindS ⟨⟨kind, row, at_, n, nodes, oslot, old, text⟩, k, index, inside, slot, rest⟩ [index - k], false) := by unfold removeS; rw [if_neg (by simp; omega), if_neg hk0]
      have HF := hid hfin
      clear hfin
      go_enter Try.func59, Try.ntmps59
      go_wp2_with fail
      refine (behind_lit _ Ar An As lr cr ln cn cs w _ H.out.1 H.out.2 (by first | exact below_alloc _ _ | exact below_draw (below_alloc _ _) _) [index - k] (by intro x hx; simp only [List.mem_cons, List.not_mem_nil, or_false] at hx; rcases hx with rfl <;> (apply in64_of <;> omega)) (by simp) _ _ rfl (by simp) _ rfl).mono ?_
      rintro e w1 ⟨v1, rfl, hv1, hb1⟩
      have HV := hid hv1
      have HB := hid hb1
      clear hv1 hb1
      go_wp2_with fail
      go_ret2
      rw [HF.out]
      exact ⟨_, rfl, HV.out, HB.out⟩

end Go.Proofs.Yteckkamlaibjbaa
