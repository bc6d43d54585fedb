/- posmap: unwrap. Written by wip/genplace.py. -/
import Derived.Test.YteckkamlaibjbaaPlaceD
import Derived.Deep.QuietTactic
import Derived.BigQuiet
import Derived.Test.YteckkamlaibjbaaPlaceE
set_option linter.unusedVariables false
set_option linter.unusedSimpArgs false
namespace Go.Proofs.Yteckkamlaibjbaa
open Go.RowKit

set_option maxHeartbeats 2000000 in
theorem unwrap_any (p : PlaceD) (Ar An As : Option Addr) (lr cr ln cn cs : Nat) (w : World) (hp : p.Ok) (hs : IntsR w (Lt w.heap.size) p.rest (.slice As p.rest.length cs)) :
    Calls Try.prog 61 #[.agg (placeC p (.slice Ar lr cr) (.slice An ln cn) (.slice As p.rest.length cs))] w (PairPost w (unwrapS p)) := by
  have H := hid (And.intro hp hs)
  obtain ⟨hat, hn, hslot, hk, hidx, hsl, hrest, hrlen, hne⟩ := hp
  unfold Bd at hat hn hslot hidx hsl
  obtain ⟨hat1, hat2⟩ := hat
  obtain ⟨hidx1, hidx2⟩ := hidx
  obtain ⟨hn1, hn2⟩ := hn
  obtain ⟨hos1, hos2⟩ := hslot
  obtain ⟨hs1, hs2⟩ := hsl
  have hne' := hid hne
  clear hrest hrlen hne hs
  obtain ⟨⟨kind, row, at_, n, nodes, oslot, old, text⟩, k, index, inside, slot, rest⟩ := p
  simp only [placeC] at *
  rcases Int.lt_trichotomy index at_ with hlt | heq | hgt
  · have heq : (index == at_) = false := by simp; omega
    have hfin : unwrapS ⟨⟨kind, row, at_, n, nodes, oslot, old, text⟩, k, index, inside, slot, rest⟩ = (behindS ⟨⟨kind, row, at_, n, nodes, oslot, old, text⟩, k, index, inside, slot, rest⟩ [index], false) := by unfold unwrapS; rw [if_pos (Or.inl hlt)]
    cases inside
    · skip
      have HF := hid hfin
      clear hfin
      go_enter Try.func61, Try.ntmps61
      go_wp2_with fail
      go_quiet (fail)
      go_wp2_with fail
      refine (behind_lit _ Ar An As lr cr ln cn cs w _ H.out.1 H.out.2 (by first | exact below_alloc _ _ | exact below_draw (below_alloc _ _) _) [index] (by intro x hx; simp only [List.mem_cons, List.not_mem_nil, or_false] at hx; rcases hx with rfl <;> (apply in64_of <;> omega)) (by simp) _ _ rfl (by simp) _ rfl).mono ?_
      rintro e w1 ⟨v1, rfl, hv1, hb1⟩
      have HV := hid hv1
      have HB := hid hb1
      clear hv1 hb1
      go_wp2_with fail
      go_ret2
      rw [HF.out]
      exact ⟨_, rfl, HV.out, HB.out⟩
    · skip
      have HF := hid hfin
      clear hfin
      go_enter Try.func61, Try.ntmps61
      go_wp2_with fail
      go_quiet (fail)
      go_wp2_with fail
      refine (behind_lit _ Ar An As lr cr ln cn cs w _ H.out.1 H.out.2 (by first | exact below_alloc _ _ | exact below_draw (below_alloc _ _) _) [index] (by intro x hx; simp only [List.mem_cons, List.not_mem_nil, or_false] at hx; rcases hx with rfl <;> (apply in64_of <;> omega)) (by simp) _ _ rfl (by simp) _ rfl).mono ?_
      rintro e w1 ⟨v1, rfl, hv1, hb1⟩
      have HV := hid hv1
      have HB := hid hb1
      clear hv1 hb1
      go_wp2_with fail
      go_ret2
      rw [HF.out]
      exact ⟨_, rfl, HV.out, HB.out⟩
  · subst heq
    cases inside with
    | false =>
      have hfin : unwrapS ⟨⟨kind, row, index, n, nodes, oslot, old, text⟩, k, index, false, slot, rest⟩ = (behindS ⟨⟨kind, row, index, n, nodes, oslot, old, text⟩, k, index, false, slot, rest⟩ [index], false) := by unfold unwrapS; rw [if_pos (Or.inr ⟨rfl, rfl⟩)]
      have HF := hid hfin
      clear hfin
      go_enter Try.func61, Try.ntmps61
      go_wp2_with fail
      go_quiet (fail)
      go_wp2_with fail
      refine (behind_lit _ Ar An As lr cr ln cn cs w _ H.out.1 H.out.2 (by first | exact below_alloc _ _ | exact below_draw (below_alloc _ _) _) [index] (by intro x hx; simp only [List.mem_cons, List.not_mem_nil, or_false] at hx; rcases hx with rfl <;> (apply in64_of <;> omega)) (by simp) _ _ rfl (by simp) _ rfl).mono ?_
      rintro e w1 ⟨v1, rfl, hv1, hb1⟩
      have HV := hid hv1
      have HB := hid hb1
      clear hv1 hb1
      go_wp2_with fail
      go_ret2
      rw [HF.out]
      exact ⟨_, rfl, HV.out, HB.out⟩
    | true =>
      rcases Int.lt_trichotomy slot oslot with hs | hs | hs
      · have hfin : unwrapS ⟨⟨kind, row, index, n, nodes, oslot, old, text⟩, k, index, true, slot, rest⟩ = ([index], true) := by unfold unwrapS; rw [if_neg (by simp), if_neg (by simp), if_pos hs]
        have HF := hid hfin
        clear hfin
        go_enter Try.func61, Try.ntmps61
        go_wp2_with fail
        go_quiet (fail)
        go_wp2_with fail
        go_ret2
        rw [HF.out]
        exact ⟨_, rfl, lit_post (by first | exact below_alloc _ _ | exact below_draw (below_alloc _ _) _) [index] (by intro x hx; simp only [List.mem_cons, List.not_mem_nil, or_false] at hx; rcases hx with rfl <;> (apply in64_of <;> omega)) (by simp) _ _ rfl (by simp) _ rfl⟩
      · subst hs
        cases rest with
        | nil => exact absurd (hne'.out rfl) (by simp)
        | cons r rest =>
          have hfin : unwrapS ⟨⟨kind, row, index, n, nodes, slot, old, text⟩, k, index, true, slot, r :: rest⟩ = ((index + r) :: rest, false) := by unfold unwrapS; simp
          rw [hfin]
          exact unwrap_eq kind row n nodes old text k index slot r rest Ar An As lr cr ln cn cs w H.out.1 H.out.2
      · have hfin : unwrapS ⟨⟨kind, row, index, n, nodes, oslot, old, text⟩, k, index, true, slot, rest⟩ = ([index + n], true) := by unfold unwrapS; rw [if_neg (by simp), if_neg (by simp), if_neg (by simp; omega), if_pos hs]
        have HF := hid hfin
        clear hfin
        go_enter Try.func61, Try.ntmps61
        go_wp2_with fail
        go_quiet (fail)
        go_wp2_with fail
        go_ret2
        rw [HF.out]
        exact ⟨_, rfl, lit_post (by first | exact below_alloc _ _ | exact below_draw (below_alloc _ _) _) [index + n] (by intro x hx; simp only [List.mem_cons, List.not_mem_nil, or_false] at hx; rcases hx with rfl <;> (apply in64_of <;> omega)) (by simp) _ _ rfl (by simp) _ rfl⟩
  · have heq : (index == at_) = false := by simp; omega
    have hnlt : decide (index < at_) = false := by simp; omega
    have hfin : unwrapS ⟨⟨kind, row, at_, n, nodes, oslot, old, text⟩, k, index, inside, slot, rest⟩ = (behindS ⟨⟨kind, row, at_, n, nodes, oslot, old, text⟩, k, index, inside, slot, rest⟩ [index - 1 + n], false) := by unfold unwrapS; rw [if_neg (by simp; omega), if_pos hgt]
    cases inside
    · skip
      have HF := hid hfin
      clear hfin
      go_enter Try.func61, Try.ntmps61
      go_wp2_with fail
      go_quiet (fail)
      go_wp2_with fail
      refine (behind_lit _ Ar An As lr cr ln cn cs w _ H.out.1 H.out.2 (by first | exact below_alloc _ _ | exact below_draw (below_alloc _ _) _) [index - 1 + n] (by intro x hx; simp only [List.mem_cons, List.not_mem_nil, or_false] at hx; rcases hx with rfl <;> (apply in64_of <;> omega)) (by simp) _ _ rfl (by simp) _ rfl).mono ?_
      rintro e w1 ⟨v1, rfl, hv1, hb1⟩
      have HV := hid hv1
      have HB := hid hb1
      clear hv1 hb1
      go_wp2_with fail
      go_ret2
      rw [HF.out]
      exact ⟨_, rfl, HV.out, HB.out⟩
    · skip
      have HF := hid hfin
      clear hfin
      go_enter Try.func61, Try.ntmps61
      go_wp2_with fail
      go_quiet (fail)
      go_wp2_with fail
      refine (behind_lit _ Ar An As lr cr ln cn cs w _ H.out.1 H.out.2 (by first | exact below_alloc _ _ | exact below_draw (below_alloc _ _) _) [index - 1 + n] (by intro x hx; simp only [List.mem_cons, List.not_mem_nil, or_false] at hx; rcases hx with rfl <;> (apply in64_of <;> omega)) (by simp) _ _ rfl (by simp) _ rfl).mono ?_
      rintro e w1 ⟨v1, rfl, hv1, hb1⟩
      have HV := hid hv1
      have HB := hid hb1
      clear hv1 hb1
      go_wp2_with fail
      go_ret2
      rw [HF.out]
      exact ⟨_, rfl, HV.out, HB.out⟩

end Go.Proofs.Yteckkamlaibjbaa
