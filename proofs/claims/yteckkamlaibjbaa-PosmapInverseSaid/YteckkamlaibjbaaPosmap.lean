/- posmap: image, cut. -/
import Derived.Test.YteckkamlaibjbaaPlaceM
import Derived.Test.YteckkamlaibjbaaPlaceW
import Derived.Test.YteckkamlaibjbaaPlaceU
import Derived.Test.YteckkamlaibjbaaRef13O
import Derived.Test.YteckkamlaibjbaaRef13W
set_option linter.unusedVariables false
set_option linter.unusedSimpArgs false
namespace Go.Proofs.Yteckkamlaibjbaa
open Go.RowKit

def imageS (p : PlaceD) (after : Bool) : List Int × Bool :=
  if p.op.kind = 1 then (insertS p after, false) else if p.op.kind = 2 then removeS p else if p.op.kind = 3 then (wrapS p after, false) else if p.op.kind = 4 then unwrapS p else (behindS p [p.index], false)

set_option maxHeartbeats 2000000 in
theorem image_any (p : PlaceD) (after : Bool) (Ar An As : Option Addr) (lr cr ln cn cs : Nat) (w : World) (hp : p.Ok) (hs : IntsR w (Lt w.heap.size) p.rest (.slice As p.rest.length cs)) :
    Calls Try.prog 39 #[.agg (placeC p (.slice Ar lr cr) (.slice An ln cn) (.slice As p.rest.length cs)), .bool after] w (PairPost w (imageS p after)) := by
  obtain ⟨o1, ho1⟩ : ∃ o, o = Obj.cells (placeC p (.slice Ar lr cr) (.slice An ln cn) (.slice As p.rest.length cs)) 65 := ⟨_, rfl⟩
  have hs' := hs.alloc o1
  have hi1 := insert_any p after Ar An As lr cr ln cn cs (w.alloc o1) hp hs'
  have hi2 := remove_any p Ar An As lr cr ln cn cs (w.alloc o1) hp hs'
  have hi3 := wrap_any p after Ar An As lr cr ln cn cs (w.alloc o1) hp hs'
  have hi4 := unwrap_any p Ar An As lr cr ln cn cs (w.alloc o1) hp hs'
  have hi5 := behind_lit p Ar An As lr cr ln cn cs w (w.alloc o1) hp hs (below_alloc _ _) [p.index] (by intro x hx; simp at hx; subst hx; exact bd_in64 hp.index) (by simp) 1 (w.heap.size + 1) rfl (by simp) #[.int .i64 p.index] rfl
  rw [ho1] at hi1 hi2 hi3 hi4 hi5
  have H1 := hid hi1
  have H2 := hid hi2
  have H3 := hid hi3
  have H4 := hid hi4
  have H5 := hid hi5
  have HB : Hid (Below w.heap.size w (w.alloc (Obj.cells (placeC p (.slice Ar lr cr) (.slice An ln cn) (.slice As p.rest.length cs)) 65))) := below_alloc _ _
  clear hi1 hi2 hi3 hi4 hi5 ho1 hs hs' o1 hp
  obtain ⟨⟨kind, row, at_, n, nodes, oslot, old, text⟩, k, index, inside, slot, rest⟩ := p
  simp only [placeC] at *
  by_cases h1 : kind = 1
  · subst h1
    go_enter Try.func39, Try.ntmps39
    go_wp2_with fail
    with_reducible refine H1.out.mono ?_
    rintro e w1 ⟨v1, rfl, hv1, hb1⟩
    have HV := hid hv1
    have HB1 := hid hb1
    clear hv1 hb1
    go_wp2_with fail
    go_ret2
    exact ⟨_, rfl, HV.out, HB.out.trans (HB1.out.mono HB.out.size)⟩
  have e1 : (kind == 1) = false := by simpa using h1
  by_cases h2 : kind = 2
  · subst h2
    clear h1
    go_enter Try.func39, Try.ntmps39
    go_wp2_with fail
    with_reducible refine H2.out.mono ?_
    rintro e w1 ⟨v1, rfl, hv1, hb1⟩
    have HV := hid hv1
    have HB1 := hid hb1
    clear hv1 hb1
    go_wp2_with fail
    go_ret2
    exact ⟨_, rfl, HV.out, HB.out.trans (HB1.out.mono HB.out.size)⟩
  have e2 : (kind == 2) = false := by simpa using h2
  by_cases h3 : kind = 3
  · subst h3
    clear h1 h2
    go_enter Try.func39, Try.ntmps39
    go_wp2_with fail
    with_reducible refine H3.out.mono ?_
    rintro e w1 ⟨v1, rfl, hv1, hb1⟩
    have HV := hid hv1
    have HB1 := hid hb1
    clear hv1 hb1
    go_wp2_with fail
    go_ret2
    exact ⟨_, rfl, HV.out, HB.out.trans (HB1.out.mono HB.out.size)⟩
  have e3 : (kind == 3) = false := by simpa using h3
  by_cases h4 : kind = 4
  · subst h4
    clear h1 h2 h3
    go_enter Try.func39, Try.ntmps39
    go_wp2_with fail
    with_reducible refine H4.out.mono ?_
    rintro e w1 ⟨v1, rfl, hv1, hb1⟩
    have HV := hid hv1
    have HB1 := hid hb1
    clear hv1 hb1
    go_wp2_with fail
    go_ret2
    exact ⟨_, rfl, HV.out, HB.out.trans (HB1.out.mono HB.out.size)⟩
  have e4 : (kind == 4) = false := by simpa using h4
  have HF : Hid (imageS ⟨⟨kind, row, at_, n, nodes, oslot, old, text⟩, k, index, inside, slot, rest⟩ after = (behindS ⟨⟨kind, row, at_, n, nodes, oslot, old, text⟩, k, index, inside, slot, rest⟩ [index], false)) := by
    show _ = _; unfold imageS; simp [h1, h2, h3, h4]
  clear h1 h2 h3 h4
  go_enter Try.func39, Try.ntmps39
  go_wp2_with fail
  with_reducible refine H5.out.mono ?_
  rintro e w1 ⟨v1, rfl, hv1, hb1⟩
  have HV := hid hv1
  have HB1 := hid hb1
  clear hv1 hb1
  go_wp2_with fail
  go_ret2
  rw [HF.out]
  exact ⟨_, rfl, HV.out, HB1.out⟩
end Go.Proofs.Yteckkamlaibjbaa
