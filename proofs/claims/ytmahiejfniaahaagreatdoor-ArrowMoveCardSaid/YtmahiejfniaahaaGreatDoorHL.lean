/- Texts put together: HitD, HitM, VrtQ, HitA. -/
import Derived.Test.YtmahiejfniaahaaGreatDoorHK
import Derived.Laws.EntriesVeiled
import Derived.Deep.RegionHeld3
import Derived.Test.YtmahiejfniaahaaGreatDoorOrdAv
import Derived.Test.YtmahiejfniaahaaGreatDoorArrMv
import Derived.Test.YtmahiejfniaahaaGreatDoorGQ
import Derived.Test.YtmahiejfniaahaaGreatDoorCarAlv
set_option linter.unusedVariables false
set_option linter.unusedSimpArgs false
set_option maxRecDepth 100000
namespace Go.Proofs.YtmahiejfniaahaaGreatDoor
open Go.RowKit
end Go.Proofs.YtmahiejfniaahaaGreatDoor
set_option linter.unusedVariables false
set_option linter.unusedSimpArgs false
set_option maxRecDepth 100000
namespace Go.Proofs.YtmahiejfniaahaaGreatDoor
open Go.RowKit
theorem carsAt {w : World} {S : Nat → Prop} {ds : List CarD} {A : Option Addr} {cs : List Value} (h3 : Reads w S A cs) (h4 : ListR carE w S ds cs) {k : Nat} (hk : k < ds.length) :
    ∃ g o A' c', A = some ⟨g, o, none⟩ ∧ S g ∧ w.cell? ⟨g, o + k * 4, none⟩ = some (.slice A' ds[k].pos.length c') ∧ w.cell? ⟨g, o + k * 4 + 1, none⟩ = some (.int .i64 ds[k].x) ∧ w.cell? ⟨g, o + k * 4 + 2, none⟩ = some (.int .i64 ds[k].top) ∧ w.cell? ⟨g, o + k * 4 + 3, none⟩ = some (.int .i64 ds[k].bottom) ∧ ds[k].Ok ∧ IntsR w S ds[k].pos (.slice A' ds[k].pos.length c') := by
  obtain ⟨g, o, c, e, hb, ⟨v, rfl, h5, h6⟩, hc⟩ := slice_at h3 h4 hk
  obtain ⟨A', c', rfl⟩ := h6.form
  have hE : carE.size = 4 := rfl
  rw [hE] at hc
  exact ⟨g, o, A', c', e, hb, hc 0 _ rfl, hc 1 _ rfl, hc 2 _ rfl, hc 3 _ rfl, h5, h6⟩
theorem getD_at {α : Type} (ds : List α) (z : α) {k : Nat} (h : k < ds.length) : ds.getD k z = ds[k] := by simp [List.getD_eq_getElem?_getD, h]
end Go.Proofs.YtmahiejfniaahaaGreatDoor
set_option linter.unusedVariables false
set_option linter.unusedSimpArgs false
set_option maxRecDepth 100000
namespace Go.Proofs.YtmahiejfniaahaaGreatDoor
open Go.RowKit
theorem alevel_any (d : CarD) (A : Option Addr) (n c : Nat) (w : World) (hs : d.Sm) :
    Calls Tryz.prog 131 #[.agg #[.slice A n c, .int .i64 d.x, .int .i64 d.top, .int .i64 d.bottom]] w fun e w' => e = .returned (.int .i64 (levS d)) ∧ w' = w.alloc (.cells #[.slice A n c, .int .i64 d.x, .int .i64 d.top, .int .i64 d.bottom] 32) := by
  have hl := hs.lev
  have v1 : IntKind.i64.wrap (d.top + d.bottom) = levS d := by rw [show levS d = d.top + d.bottom from rfl] at *; exact IntWalk.i64_in _ (by omega)
  generalize levS d = lv at *
  clear hl hs
  go_enter Tryz.func131, Tryz.ntmps131
  go_wp2_with fail
  go_ret
  exact ⟨rfl, rfl⟩
theorem rlevel_any (d : CarD) (A : Option Addr) (n c : Nat) (w : World) (hs : d.Sm) :
    Calls Tryz.prog 100 #[.agg #[.slice A n c, .int .i64 d.x, .int .i64 d.top, .int .i64 d.bottom]] w fun e w' => e = .returned (.int .i64 (levS d)) ∧ w' = w.alloc (.cells #[.slice A n c, .int .i64 d.x, .int .i64 d.top, .int .i64 d.bottom] 36) := by
  have hl := hs.lev
  have v1 : IntKind.i64.wrap (d.top + d.bottom) = levS d := by rw [show levS d = d.top + d.bottom from rfl] at *; exact IntWalk.i64_in _ (by omega)
  generalize levS d = lv at *
  clear hl hs
  go_enter Tryz.func100, Tryz.ntmps100
  go_wp2_with fail
  go_ret
  exact ⟨rfl, rfl⟩
theorem adist_q (a b : Int) (w : World) (ha : -140737488355328 ≤ a ∧ a ≤ 140737488355328) (hb : -140737488355328 ≤ b ∧ b ≤ 140737488355328) :
    Calls Tryz.prog 130 #[.int .i64 a, .int .i64 b] w fun e w' => e = .returned (.int .i64 (max (a - b) (b - a))) ∧ w = w' := by
  have v1 : IntKind.i64.wrap (a - b) = a - b := IntWalk.i64_in _ (by omega)
  have v2 : IntKind.i64.wrap (b - a) = b - a := IntWalk.i64_in _ (by omega)
  clear ha hb
  go_enter Tryz.func130, Tryz.ntmps130
  go_wp2_with fail
  go_ret
  exact ⟨rfl, rfl⟩
theorem vclo_any (d : CarD) (p : List Int) (A Ap : Option Addr) (n c cp gm : Nat) (S S' : Nat → Prop) (w : World) (hd : IntsR w S d.pos (.slice A n c)) (hS : ∀ k, S k → k < w.heap.size) (hp : IntsR w S' p (.slice Ap p.length cp)) (hS' : ∀ k, S' k → k < w.heap.size) (hm : w.cell? ⟨gm, 15, none⟩ = some (.slice Ap p.length cp)) :
    Calls Tryz.prog 128 #[.agg #[.slice A n c, .int .i64 d.x, .int .i64 d.top, .int .i64 d.bottom], .pointer (some ⟨gm, 0, none⟩)] w fun e w' => e = .returned (.bool (decide (d.pos = p))) ∧ Below w.heap.size w w' := by
  have hg := cIn hm
  obtain ⟨W0, hW0⟩ : ∃ W0, w.alloc (.cells #[.slice A n c, .int .i64 d.x, .int .i64 d.top, .int .i64 d.bottom] 32) = W0 := ⟨_, rfl⟩
  have hb0 : Below w.heap.size w W0 := by rw [← hW0]; exact bNew _ _
  have c0 : W0.cell? ⟨w.heap.size, 0, none⟩ = some (.slice A n c) := by rw [← hW0]; exact cNew _ _ _ _ _ rfl
  have c15 := (hb0.cell (p := ⟨gm, 15, none⟩) hg).trans hm
  have HE := hid (equal_q d.pos p W0 _ _ _ _ (hd.keep (fun q hq => hb0.cell (hS _ hq)) (fun _ h => h)) (hp.keep (fun q hq => hb0.cell (hS' _ hq)) (fun _ h => h)))
  have HB0 := hid hb0
  generalize decide (d.pos = p) = dd at *
  clear hb0 hm hg hp hd hS hS'
  go_enter Tryz.func128, Tryz.ntmps128
  go_upto_region 1 with fail
  try rw [hW0]
  clear hW0
  go_wp2_with fail
  refine HE.out.mono ?_
  rintro e w1 ⟨rfl, k, rfl⟩
  go_wp2_with fail
  go_ret
  exact ⟨rfl, bDn HB0.out _⟩
set_option maxHeartbeats 4000000 in
theorem vidx_any (ds : List CarD) (p : List Int) (A Ap : Option Addr) (cap cp gm : Nat) (S S' : Nat → Prop) (w : World) (hS : ∀ k, S k → k < w.heap.size) (hv : CarsR w S ds (.slice A ds.length cap)) (hp : IntsR w S' p (.slice Ap p.length cp)) (hS' : ∀ k, S' k → k < w.heap.size) (hm : w.cell? ⟨gm, 15, none⟩ = some (.slice Ap p.length cp)) (hex : ∃ k, ∃ hk : k < ds.length, ds[k].pos = p) :
    Calls Tryz.prog 127 #[.slice A ds.length cap, .func (.func 128) #[] #[.pointer (some ⟨gm, 0, none⟩)]] w fun e w' => ∃ k : Nat, ∃ hk : k < ds.length, ds[k].pos = p ∧ e = .returned (.int .i64 (k : Int)) ∧ Below w.heap.size w w' := by
  have hlen := hv.lens
  unfold maxLen at hlen
  have hg := cIn hm
  obtain ⟨_, _, rs, hq, _, _, hrd, hls⟩ := hv
  cases hq
  have HAT : Hid (∀ k (hk : k < ds.length) W, Below w.heap.size w W → ∃ g o A' c', A = some ⟨g, o, none⟩ ∧ g < w.heap.size ∧ W.cell? ⟨g, o + k * 4, none⟩ = some (.slice A' ds[k].pos.length c') ∧ W.cell? ⟨g, o + k * 4 + 1, none⟩ = some (.int .i64 ds[k].x) ∧ W.cell? ⟨g, o + k * 4 + 2, none⟩ = some (.int .i64 ds[k].top) ∧ W.cell? ⟨g, o + k * 4 + 3, none⟩ = some (.int .i64 ds[k].bottom) ∧
      Hid (Calls Tryz.prog 128 #[.agg #[.slice A' ds[k].pos.length c', .int .i64 ds[k].x, .int .i64 ds[k].top, .int .i64 ds[k].bottom], .pointer (some ⟨gm, 0, none⟩)] W fun e w' => e = .returned (.bool (decide (ds[k].pos = p))) ∧ Below W.heap.size W w')) := fun k hk W hW => by
    obtain ⟨g, o, A', c', e, hg', a0, a1, a2, a3, _, hi⟩ := carsAt hrd hls hk
    have hg'' := hS g hg'
    refine ⟨g, o, A', c', e, hg'', (hW.cell (p := ⟨g, _, none⟩) hg'').trans a0, (hW.cell (p := ⟨g, _, none⟩) hg'').trans a1, (hW.cell (p := ⟨g, _, none⟩) hg'').trans a2, (hW.cell (p := ⟨g, _, none⟩) hg'').trans a3, ?_⟩
    exact vclo_any ds[k] p A' Ap _ c' cp gm S S' W (hi.keep (fun q hq => hW.cell (hS _ hq)) (fun _ h => h)) (fun k hk => Nat.lt_of_lt_of_le (hS k hk) hW.size) (hp.keep (fun q hq => hW.cell (hS' _ hq)) (fun _ h => h)) (fun k hk => Nat.lt_of_lt_of_le (hS' k hk) hW.size) ((hW.cell (p := ⟨gm, 15, none⟩) hg).trans hm)
  have HEX := hid hex
  clear hrd hls hS hp hS' hm hg hex
  go_enter Tryz.func127, Tryz.ntmps127
  go_wp2_with fail
  go_loopw [8] (fun i wr => Below w.heap.size w wr ∧ ∃ k : Nat, k ≤ ds.length ∧ i = .int .i64 k ∧ ∀ j (hj : j < ds.length), j < k → ds[j].pos ≠ p) (fun i _ => ds.length - (intOf i).toNat)
  case atStart => exact ⟨Below.refl _ _, 0, Nat.zero_le _, rfl, fun j _ hj => absurd hj (Nat.not_lt_zero _)⟩
  case round =>
    obtain ⟨hbr, k, hk, rfl, hno⟩ := hrel
    have HBR := hid hbr
    have HNO := hid hno
    rcases Nat.lt_or_ge k ds.length with hlt | hge
    · obtain ⟨g, o, A', c', rfl, hg', a0, a1, a2, a3, HC⟩ := HAT.out k hlt wr hbr
      have i5 : decide ((k : Int) < (ds.length : Int)) = true := by rw [decide_eq_true_eq]; omega
      have i6 : (0 : Int) ≤ (k : Int) := by omega
      have i7 : (k : Int) < (ds.length : Int) := by omega
      clear hbr hno
      by_cases hp : ds[k].pos = p
      · rw [decide_eq_true hp] at HC
        have HP := hid hp
        clear hp
        generalize hdk : ds[k] = dk at a0 a1 a2 a3 HC
        have HD := hid hdk
        clear hdk
        go_wp2_with fail
        refine HC.out.mono ?_
        rintro e w1 ⟨rfl, hb1⟩
        have HB1 := hid (HBR.out.trans (hb1.mono HBR.out.size))
        clear hb1
        go_wp2_with fail
        go_ret
        exact ⟨k, hlt, HP.out, rfl, HB1.out⟩
      · rw [decide_eq_false hp] at HC
        have HP := hid hp
        clear hp
        generalize hdk : ds[k] = dk at a0 a1 a2 a3 HC
        have HD := hid hdk
        clear hdk
        go_wp2_with fail
        refine HC.out.mono ?_
        rintro e w1 ⟨rfl, hb1⟩
        have HB1 := hid (HBR.out.trans (hb1.mono HBR.out.size))
        clear hb1
        go_wp2_with fail
        go_roundw
        case rel =>
          refine ⟨HB1.out, k + 1, by omega, by go_num, fun j hj hjk => ?_⟩
          rcases Nat.lt_succ_iff_lt_or_eq.1 hjk with h | h
          · exact HNO.out j hj h
          · subst h
            exact HP.out
        case measure => simp [intOf]; omega
    · exfalso
      obtain ⟨j, hj, hjp⟩ := HEX.out
      exact hno j hj (by omega) hjp
end Go.Proofs.YtmahiejfniaahaaGreatDoor
set_option linter.unusedVariables false
set_option linter.unusedSimpArgs false
set_option maxRecDepth 100000
namespace Go.Proofs.YtmahiejfniaahaaGreatDoor
open Go.RowKit
end Go.Proofs.YtmahiejfniaahaaGreatDoor
