/- vinculumlaw13.PosmapMapAll: the walk. -/
import Derived.Test.YteckkamlaibjbaaClose
set_option linter.unusedVariables false
set_option linter.unusedSimpArgs false
namespace Go.Proofs.Yteckkamlaibjbaa
open Go.RowKit

theorem all_of {α : Type} {p : α → Bool} {l : List α} (h : l.all p = true) : ∀ x ∈ l, p x = true := fun x hx => List.all_eq_true.1 h x hx

theorem few13_ops {t : Tree} {pos : List Int} {ops : List OpD} (h : few13S t pos ops = true) :
    OpsOk ops ∧ (ops ≠ [] → ∀ x ∈ pos, Bd 1099511627776 x) ∧ ops.length ≤ 12 ∧ pos.length ≤ 60 := by
  unfold few13S at h
  simp only [Bool.and_eq_true, decide_eq_true_eq] at h
  obtain ⟨h1, ⟨h2, h3⟩, h4⟩ := h
  have hop : ∀ op ∈ ops, op.Ok ∧ (∀ x ∈ op.row, Bd 1099511627776 x) ∧ op.row.length ≤ 60 ∧ ∀ x ∈ pos, Bd 1099511627776 x := by
    intro op hm
    have hs := all_of h1 op hm
    have hfw : opFewS op = true := by unfold opSmall at hs; simp only [Bool.and_eq_true] at hs; exact hs.1.1.1
    exact opSmall_ok hs (Nat.le_trans (opFew_len hfw) (by omega))
  refine ⟨fun op hm => ⟨(hop op hm).1, (hop op hm).2.1, (hop op hm).2.2.1⟩, fun hn => ?_, h3, h4⟩
  cases ops with
  | nil => exact absurd rfl hn
  | cons op ops => exact (hop op (by simp)).2.2.2

set_option maxHeartbeats 2000000 in
theorem posmapMapAll_walk (ops : List OpD) (pos : List Int) (after : Bool) (Ao Ap : Option Addr) (co cp : Nat) (w : World) (ho : SliceR opE w (Lt w.heap.size) ops (.slice Ao ops.length co)) (hpos : IntsR w (Lt w.heap.size) pos (.slice Ap pos.length cp)) :
    Calls Try.prog 5 #[.slice Ao ops.length co, .slice Ap pos.length cp, .bool after] w fun e w' => e = .returned (.bool true) ∧ Below w.heap.size w w' := by
  have HFEW : Hid (∀ W, Below w.heap.size w W → Calls Try.prog 10 #[.agg #[.int .i64 0, .string ⟨#[]⟩, .int .i64 0, .slice none 0 0], .slice Ap pos.length cp, .slice Ao ops.length co] W fun e w' => e = .returned (.bool (few13S (.mk 0 ⟨#[]⟩ 0 []) pos ops)) ∧ Below W.heap.size W w') :=
    fun W hW => few13_any (.mk 0 ⟨#[]⟩ 0 []) pos ops none Ap Ao 0 cp co W (SliceR.nil_ 0 (by simp) none) (hpos.below hW hW.size) (ho.below hW hW.size)
  cases hf : few13S (.mk 0 ⟨#[]⟩ 0 []) pos ops with
  | false =>
    rw [hf] at HFEW
    clear hf ho hpos
    go_enter Try.func5, Try.ntmps5
    go_wp2_with fail
    refine (awake_any _).mono ?_
    rintro e w1 ⟨rfl, hb1⟩
    have HB1 := hid hb1
    clear hb1
    go_wp2_with fail
    refine (HFEW.out _ HB1.out).mono ?_
    rintro e w2 ⟨rfl, hb2⟩
    have HB2 : Hid (Below w.heap.size w w2) := HB1.out.trans (hb2.mono HB1.out.size)
    clear hb2
    go_wp2_with fail
    refine (awake_any _).mono ?_
    rintro e w3 ⟨rfl, hb3⟩
    go_wp2_with fail
    go_ret
    exact ⟨rfl, HB2.out.trans (hb3.mono HB2.out.size)⟩
  | true =>
    obtain ⟨hok, hbd, hol, hpl⟩ := few13_ops hf
    have CM : Hid (∀ W, Below w.heap.size w W → Calls Try.prog 20 #[.slice Ao ops.length co, .slice Ap pos.length cp, .bool after] W (IntsPost W (mapAllS ops pos after))) :=
      fun W hW => mapAll_any ops pos after Ao Ap co cp W hok (by omega) (ho.below hW hW.size) (hpos.below hW hW.size) (by omega) hbd
    have CR : Hid (∀ W, Below w.heap.size w W → Calls Try.prog 21 #[.slice Ao ops.length co, .slice Ap pos.length cp, .bool after] W (IntsPost W (mapAllS ops pos after))) := by
      intro W hW
      rw [mapAll_eq]
      refine refMapAll_any ops pos after Ao Ap co cp W (fun op hm => (hok op hm).1) (by omega) (ho.below hW hW.size) (hpos.below hW hW.size) (by omega) ?_ hbd
      intro k q hk _ hq hb
      have hm : ops.getD k ⟨0, [], 0, 0, [], 0, ⟨#[]⟩, ⟨#[]⟩⟩ ∈ ops := by rw [List.getD_eq_getElem?_getD, List.getElem?_eq_getElem hk]; exact List.getElem_mem _
      obtain ⟨h1, h2, h3⟩ := hok _ hm
      rw [← map_eq]
      have hl := mapS_len (ops.getD k ⟨0, [], 0, 0, [], 0, ⟨#[]⟩, ⟨#[]⟩⟩) q after h3
      have hbb := mapS_bd (ops.getD k ⟨0, [], 0, 0, [], 0, ⟨#[]⟩, ⟨#[]⟩⟩) q after _ h1 h2 (by omega) hb
      exact ⟨by omega, fun x hx => (hbb x hx).mono (by omega)⟩
    have CS : Hid (∀ (W : World) (S1 S2 : Nat → Prop) (v1 v2 : Value), IntsR W S1 (mapAllS ops pos after) v1 → IntsR W S2 (mapAllS ops pos after) v2 → Calls Try.prog 19 #[v1, v2] W fun e w' => e = .returned (.bool true) ∧ ∃ n, w' = W.drewN n) := by
      intro W S1 S2 v1 v2 h1 h2
      have h := same_q _ _ W v1 v2 S1 S2 h1 h2
      rw [decide_eq_true ((cmpS_zero _ _).2 rfl)] at h
      exact h
    rw [hf] at HFEW
    generalize mapAllS ops pos after = m at *
    clear hf ho hpos hok hbd hol hpl
    go_enter Try.func5, Try.ntmps5
    go_wp2_with fail
    refine (awake_any _).mono ?_
    rintro e w1 ⟨rfl, hb1⟩
    have HB1 := hid hb1
    clear hb1
    go_wp2_with fail
    refine (HFEW.out _ HB1.out).mono ?_
    rintro e w2 ⟨rfl, hb2⟩
    have HB2 : Hid (Below w.heap.size w w2) := HB1.out.trans (hb2.mono HB1.out.size)
    clear hb2
    go_wp2_with fail
    refine (CM.out _ HB2.out).mono ?_
    rintro e w3 ⟨v3, rfl, hi3, hb3⟩
    obtain ⟨A3, c3, rfl⟩ := hi3.form
    have HI3 := hid hi3
    have HB3 : Hid (Below w.heap.size w w3) := HB2.out.trans (hb3.mono HB2.out.size)
    clear hi3 hb3
    go_wp2_with fail
    refine (CR.out _ HB3.out).mono ?_
    rintro e w4 ⟨v4, rfl, hi4, hb4⟩
    obtain ⟨A4, c4, rfl⟩ := hi4.form
    have HI3' := hid (HI3.out.below hb4 hb4.size)
    have HI4 := hid hi4
    have HB4 : Hid (Below w.heap.size w w4) := HB3.out.trans (hb4.mono HB3.out.size)
    clear hi4 hb4
    go_wp2_with fail
    refine (CS.out _ _ _ _ _ HI3'.out HI4.out).mono ?_
    rintro e w5 ⟨rfl, n5, rfl⟩
    go_wp2_with fail
    go_ret
    exact ⟨rfl, below_draw HB4.out _⟩
end Go.Proofs.Yteckkamlaibjbaa
