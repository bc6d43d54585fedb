/- ref42.far. Written by wip/genr42.py. -/
import Derived.Test.YtmahiejfniaahaaGreatDoorHL
import Derived.Laws.EntriesVeiled
import Derived.Deep.RegionHeld3
set_option linter.unusedVariables false
set_option linter.unusedSimpArgs false
set_option maxRecDepth 100000
namespace Go.Proofs.YtmahiejfniaahaaGreatDoor
open Go.RowKit
set_option maxHeartbeats 4000000 in
theorem rfar_any (d e : CarD) (A1 A2 : Option Addr) (n1 c1 n2 c2 : Nat) (w : World) (hd : d.Sm) (he : e.Sm) :
    Calls Tryz.prog 101 #[.agg #[.slice A1 n1 c1, .int .i64 d.x, .int .i64 d.top, .int .i64 d.bottom], .agg #[.slice A2 n2 c2, .int .i64 e.x, .int .i64 e.top, .int .i64 e.bottom]] w fun r w' => r = .returned (.int .i64 (farS d e)) ∧ Below w.heap.size w w' := by
  obtain ⟨W0, hW0⟩ : ∃ W0, (w.alloc (.cells #[.slice A1 n1 c1, .int .i64 d.x, .int .i64 d.top, .int .i64 d.bottom] 36)).alloc (.cells #[.slice A2 n2 c2, .int .i64 e.x, .int .i64 e.top, .int .i64 e.bottom] 36) = W0 := ⟨_, rfl⟩
  have HB0 : Hid (Below w.heap.size w W0) := by show Below _ _ _; rw [← hW0]; exact bAl (bNew _ _) _
  have KS : Hid (∀ w', Below W0.heap.size W0 w' → w'.cell? ⟨w.heap.size, 0, none⟩ = some (.slice A1 n1 c1) ∧ w'.cell? ⟨w.heap.size, 1, none⟩ = some (.int .i64 d.x) ∧ w'.cell? ⟨w.heap.size, 2, none⟩ = some (.int .i64 d.top) ∧ w'.cell? ⟨w.heap.size, 3, none⟩ = some (.int .i64 d.bottom) ∧ w'.cell? ⟨w.heap.size + 1, 0, none⟩ = some (.slice A2 n2 c2) ∧ w'.cell? ⟨w.heap.size + 1, 1, none⟩ = some (.int .i64 e.x) ∧ w'.cell? ⟨w.heap.size + 1, 2, none⟩ = some (.int .i64 e.top) ∧ w'.cell? ⟨w.heap.size + 1, 3, none⟩ = some (.int .i64 e.bottom)) := fun W hW => by
    have hz0 : W0.heap.size = w.heap.size + 2 := by rw [← hW0]; simp
    have h1 : BoxL W0 w.heap.size 0 [.slice A1 n1 c1, .int .i64 d.x, .int .i64 d.top, .int .i64 d.bottom] := by rw [← hW0]; exact (BoxL.new _ _ _ _ rfl _ rfl).below (bNew _ _) (by simp)
    have h2 : BoxL W0 (w.heap.size + 1) 0 [.slice A2 n2 c2, .int .i64 e.x, .int .i64 e.top, .int .i64 e.bottom] := by rw [← hW0]; exact BoxL.new _ _ _ _ (by simp) _ rfl
    have h3 := h1.below hW (by omega)
    have h4 := h2.below hW (by omega)
    have r0 := h3 0 _ rfl
    have r1 := h3 1 _ rfl
    have r2 := h3 2 _ rfl
    have r3 := h3 3 _ rfl
    have s0 := h4 0 _ rfl
    have s1 := h4 1 _ rfl
    have s2 := h4 2 _ rfl
    have s3 := h4 3 _ rfl
    simp only [Nat.zero_add] at r0 r1 r2 r3 s0 s1 s2 s3
    exact ⟨r0, r1, r2, r3, s0, s1, s2, s3⟩
  have CD : Hid (∀ W, Calls Tryz.prog 100 #[.agg #[.slice A1 n1 c1, .int .i64 d.x, .int .i64 d.top, .int .i64 d.bottom]] W fun r w' => r = .returned (.int .i64 (levS d)) ∧ Below W.heap.size W w') := fun W => (rlevel_any d A1 n1 c1 W hd).mono fun e w' h => ⟨h.1, h.2 ▸ bNew _ _⟩
  have CE : Hid (∀ W, Calls Tryz.prog 100 #[.agg #[.slice A2 n2 c2, .int .i64 e.x, .int .i64 e.top, .int .i64 e.bottom]] W fun r w' => r = .returned (.int .i64 (levS e)) ∧ Below W.heap.size W w') := fun W => (rlevel_any e A2 n2 c2 W he).mono fun e w' h => ⟨h.1, h.2 ▸ bNew _ _⟩
  have hld := hd.lev
  have hle := he.lev
  have hf := farS_bd hd he
  have hx1 := hd.x
  have hx2 := he.x
  unfold Sm at hx1 hx2
  have hfd : farS d e = max (levS d - levS e) (levS e - levS d) + 2 * max (d.x - e.x) (e.x - d.x) := rfl
  obtain ⟨x, hx⟩ : ∃ x, d.x - e.x = x := ⟨_, rfl⟩
  obtain ⟨y, hy⟩ : ∃ y, levS d - levS e = y := ⟨_, rfl⟩
  have v1 : IntKind.i64.wrap (d.x - e.x) = x := by rw [← hx]; exact IntWalk.i64_in _ (by omega)
  have v2 : IntKind.i64.wrap (levS d - levS e) = y := by rw [← hy]; exact IntWalk.i64_in _ (by omega)
  have v3 : IntKind.i64.wrap (-x) = -x := IntWalk.i64_in _ (by omega)
  have v4 : IntKind.i64.wrap (-y) = -y := IntWalk.i64_in _ (by omega)
  have v5 : IntKind.i64.wrap (2 * max x (-x)) = 2 * max x (-x) := IntWalk.i64_in _ (by omega)
  have v6 : IntKind.i64.wrap (2 * max x (-x) + max y (-y)) = farS d e := by
    rw [show 2 * max x (-x) + max y (-y) = farS d e by omega]
    exact IntWalk.i64_in _ (by omega)
  generalize farS d e = fd at *
  clear hld hle hf hx1 hx2 hfd hx hy hd he
  generalize levS d = ld at *
  generalize levS e = le at *
  obtain ⟨a0, a1, a2, a3, b0, b1, b2, b3⟩ := KS.out W0 (Below.refl _ _)
  go_enter Tryz.func101, Tryz.ntmps101
  go_upto_region 1 with fail
  try rw [hW0]
  clear hW0
  go_region_held3 (fun w' => w'.cell? ⟨w.heap.size, 0, none⟩ = some (.slice A1 n1 c1) ∧ w'.cell? ⟨w.heap.size, 1, none⟩ = some (.int .i64 d.x) ∧ w'.cell? ⟨w.heap.size, 2, none⟩ = some (.int .i64 d.top) ∧ w'.cell? ⟨w.heap.size, 3, none⟩ = some (.int .i64 d.bottom) ∧ w'.cell? ⟨w.heap.size + 1, 0, none⟩ = some (.slice A2 n2 c2) ∧ w'.cell? ⟨w.heap.size + 1, 1, none⟩ = some (.int .i64 e.x) ∧ w'.cell? ⟨w.heap.size + 1, 2, none⟩ = some (.int .i64 e.top) ∧ w'.cell? ⟨w.heap.size + 1, 3, none⟩ = some (.int .i64 e.bottom)) (go_keep) (first
    | (go_at_call 100; (with_reducible refine (CE.out _).mono ?_); rintro r0 w2 ⟨rfl, hb0⟩; have HB2 : Hid (Below W0.heap.size W0 w2) := hid (bCl (bCl HB1.out (show Below w1.heap.size w1 _ by (repeat (first | with_reducible exact Below.refl _ _ | with_reducible refine Below.drew ?_ | with_reducible refine bAl ?_ _ | fail)))) hb0); clear hb0; obtain ⟨a0, a1, a2, a3, b0, b1, b2, b3⟩ := KS.out _ HB2.out)
    | (go_at_call 100; (with_reducible refine (CD.out _).mono ?_); rintro r0 w1 ⟨rfl, hb0⟩; have HB1 : Hid (Below W0.heap.size W0 w1) := hid (bCl (show Below W0.heap.size W0 _ by (repeat (first | with_reducible exact Below.refl _ _ | with_reducible refine Below.drew ?_ | with_reducible refine bAl ?_ _ | fail))) hb0); clear hb0; obtain ⟨a0, a1, a2, a3, b0, b1, b2, b3⟩ := KS.out _ HB1.out)
    | fail)
  all_goals
    go_wp2_with fail
    go_ret
    exact ⟨rfl, bCl HB0.out (by first | exact HB2.out | exact HB2.out.drew)⟩
end Go.Proofs.YtmahiejfniaahaaGreatDoor
