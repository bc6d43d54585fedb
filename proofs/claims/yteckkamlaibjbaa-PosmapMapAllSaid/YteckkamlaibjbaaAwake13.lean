/- vinculumlaw13.awake. -/
import Derived.Test.YteckkamlaibjbaaMap
import Derived.Test.YteckkamlaibjbaaInts
set_option linter.unusedVariables false
set_option linter.unusedSimpArgs false
namespace Go.Proofs.Yteckkamlaibjbaa
open Go.RowKit

def awOp : OpD := ⟨3, [], 1, 2, [.mk 10 ⟨#[104, 97, 116]⟩ 0 [.mk 1 ⟨#[]⟩ 0 []]], 0, ⟨#[]⟩, ⟨#[]⟩⟩
theorem awOp_ok : awOp.Ok := ⟨by simp [awOp, Bd], by simp [awOp, Bd], by simp [awOp, Bd], by simp [awOp], by simp [awOp]⟩
theorem aw_map2 : mapS awOp [2] false = [1, 0, 1] := by decide +kernel
theorem aw_map4 : mapS awOp [4] false = [3] := by decide +kernel

theorem aw_map (x : Int) (hx : Bd 1000 x) (An Ap : Option Addr) (w : World) (hpos : IntsR w (Lt w.heap.size) [x] (.slice Ap 1 1)) :
    Calls Try.prog 14 #[.agg #[.int .i64 3, .slice none 0 0, .int .i64 1, .int .i64 2, .slice An 1 1, .int .i64 0, .string ⟨#[]⟩, .string ⟨#[]⟩], .slice Ap 1 1, .bool false] w (IntsPost w (mapS awOp [x] false)) :=
  map_any awOp [x] false none An Ap 0 1 1 w awOp_ok (SliceR.nil_ 0 (by simp) none) hpos (by simp) (by intro y hy; simp at hy; subst hy; exact ⟨by have := hx.1; omega, by have := hx.2; omega⟩)

set_option maxHeartbeats 1000000 in
theorem awake_any (w : World) : Calls Try.prog 9 #[] w fun e w' => e = .returned (.bool true) ∧ Below w.heap.size w w' := by
  have HM : Hid (∀ (x : Int) (W : World) (An : Option Addr) (g : Nat), Bd 1000 x → g = W.heap.size → Calls Try.prog 14 #[.agg #[.int .i64 3, .slice none 0 0, .int .i64 1, .int .i64 2, .slice An 1 1, .int .i64 0, .string ⟨#[]⟩, .string ⟨#[]⟩], .slice (some ⟨g, 0, none⟩) 1 1, .bool false] (W.alloc (.cells #[.int .i64 x] 3)) (IntsPost (W.alloc (.cells #[.int .i64 x] 3)) (mapS awOp [x] false))) :=
    fun x W An g hx hg => aw_map x hx An _ _ (ints_lit W [x] (by intro y hy; simp at hy; subst hy; exact ⟨by have := hx.1; omega, by have := hx.2; omega⟩) (by unfold Lt; simp) _ 1 rfl rfl (by simp [maxLen]) _ g hg)
  go_enter Try.func9, Try.ntmps9
  go_wp2_with fail
  refine (HM.out 2 _ _ _ (by simp [Bd]) (by simp)).mono ?_
  rintro e w1 ⟨v1, rfl, hi1, hb1⟩
  rw [aw_map2] at hi1
  obtain ⟨A1, c1, rfl⟩ := hi1.form
  have HI1 := hid hi1
  have z1 : w.heap.size + 1 + 1 < w1.heap.size := by have := hb1.size; simp at this; omega
  have hc := (bcell hb1).1
  have q0 : w1.cell? ⟨w.heap.size + 1 + 1, 0, none⟩ = some (.int .i64 3) := (hc (w.heap.size + 1 + 1) 0 (by simp)).trans (by rw [World.cell?_alloc_lt _ _ _ (by simp), World.cell?_alloc_at _ _ _ _ (by simp)]; rfl)
  have q1 : w1.cell? ⟨w.heap.size + 1 + 1, 1, none⟩ = some (.slice none 0 0) := (hc (w.heap.size + 1 + 1) 1 (by simp)).trans (by rw [World.cell?_alloc_lt _ _ _ (by simp), World.cell?_alloc_at _ _ _ _ (by simp)]; rfl)
  have q2 : w1.cell? ⟨w.heap.size + 1 + 1, 2, none⟩ = some (.int .i64 1) := (hc (w.heap.size + 1 + 1) 2 (by simp)).trans (by rw [World.cell?_alloc_lt _ _ _ (by simp), World.cell?_alloc_at _ _ _ _ (by simp)]; rfl)
  have q3 : w1.cell? ⟨w.heap.size + 1 + 1, 3, none⟩ = some (.int .i64 2) := (hc (w.heap.size + 1 + 1) 3 (by simp)).trans (by rw [World.cell?_alloc_lt _ _ _ (by simp), World.cell?_alloc_at _ _ _ _ (by simp)]; rfl)
  have q4 : w1.cell? ⟨w.heap.size + 1 + 1, 4, none⟩ = some (.slice (some ⟨w.heap.size + 1, 0, none⟩) 1 1) := (hc (w.heap.size + 1 + 1) 4 (by simp)).trans (by rw [World.cell?_alloc_lt _ _ _ (by simp), World.cell?_alloc_at _ _ _ _ (by simp)]; rfl)
  have q5 : w1.cell? ⟨w.heap.size + 1 + 1, 5, none⟩ = some (.int .i64 0) := (hc (w.heap.size + 1 + 1) 5 (by simp)).trans (by rw [World.cell?_alloc_lt _ _ _ (by simp), World.cell?_alloc_at _ _ _ _ (by simp)]; rfl)
  have q6 : w1.cell? ⟨w.heap.size + 1 + 1, 6, none⟩ = some (.string ⟨#[]⟩) := (hc (w.heap.size + 1 + 1) 6 (by simp)).trans (by rw [World.cell?_alloc_lt _ _ _ (by simp), World.cell?_alloc_at _ _ _ _ (by simp)]; rfl)
  have q7 : w1.cell? ⟨w.heap.size + 1 + 1, 7, none⟩ = some (.string ⟨#[]⟩) := (hc (w.heap.size + 1 + 1) 7 (by simp)).trans (by rw [World.cell?_alloc_lt _ _ _ (by simp), World.cell?_alloc_at _ _ _ _ (by simp)]; rfl)
  have HB1 : Hid (Below w.heap.size w w1) := ((((below_alloc _ _).trans ((below_alloc _ _).mono (by simp))).trans ((below_alloc _ _).mono (by simp; omega))).trans ((below_alloc _ _).mono (by simp; omega))).trans (hb1.mono (by simp; omega))
  clear hi1 hb1 hc
  go_wp2_with fail
  refine (same_q [1, 0, 1] [1, 0, 1] _ _ _ _ _ (HI1.out.alloc _) (ints_lit _ [1, 0, 1] (by simp [In64]) (S := fun _ => True) trivial #[.int .i64 1, .int .i64 0, .int .i64 1] 3 rfl rfl (by simp [maxLen]) 3 _ rfl)).mono ?_
  rintro e w2 ⟨rfl, n, rfl⟩
  have hs : decide (cmpS [1, 0, 1] [1, 0, 1] = 0) = true := by decide
  rw [hs]
  generalize hw2 : (w1.alloc (Obj.cells #[.int .i64 1, .int .i64 0, .int .i64 1] 3)).drewN n = w2
  have hb2 : Below w1.heap.size w1 w2 := by rw [← hw2]; exact below_draw (below_alloc _ _) _
  have z2 : w.heap.size + 1 + 1 < w2.heap.size := by have := hb2.size; omega
  have hc := (bcell hb2).1
  have r0 : w2.cell? ⟨w.heap.size + 1 + 1, 0, none⟩ = some (.int .i64 3) := (hc _ 0 z1).trans q0
  have r1 : w2.cell? ⟨w.heap.size + 1 + 1, 1, none⟩ = some (.slice none 0 0) := (hc _ 1 z1).trans q1
  have r2 : w2.cell? ⟨w.heap.size + 1 + 1, 2, none⟩ = some (.int .i64 1) := (hc _ 2 z1).trans q2
  have r3 : w2.cell? ⟨w.heap.size + 1 + 1, 3, none⟩ = some (.int .i64 2) := (hc _ 3 z1).trans q3
  have r4 : w2.cell? ⟨w.heap.size + 1 + 1, 4, none⟩ = some (.slice (some ⟨w.heap.size + 1, 0, none⟩) 1 1) := (hc _ 4 z1).trans q4
  have r5 : w2.cell? ⟨w.heap.size + 1 + 1, 5, none⟩ = some (.int .i64 0) := (hc _ 5 z1).trans q5
  have r6 : w2.cell? ⟨w.heap.size + 1 + 1, 6, none⟩ = some (.string ⟨#[]⟩) := (hc _ 6 z1).trans q6
  have r7 : w2.cell? ⟨w.heap.size + 1 + 1, 7, none⟩ = some (.string ⟨#[]⟩) := (hc _ 7 z1).trans q7
  have HB2 : Hid (Below w.heap.size w w2) := HB1.out.trans (hb2.mono HB1.out.size)
  clear hw2 hb2 hc q0 q1 q2 q3 q4 q5 q6 q7 hs
  go_wp2_with fail
  refine (HM.out 4 _ _ _ (by simp [Bd]) rfl).mono ?_
  rintro e w3 ⟨v3, rfl, hi3, hb3⟩
  rw [aw_map4] at hi3
  obtain ⟨A3, c3, rfl⟩ := hi3.form
  have HI3 := hid hi3
  have HB3 : Hid (Below w.heap.size w w3) := (HB2.out.trans ((below_alloc _ _).mono HB2.out.size)).trans (hb3.mono (by have := HB2.out.size; simp; omega))
  clear hi3 hb3
  go_wp2_with fail
  refine (same_q [3] [3] _ _ _ _ _ (HI3.out.alloc _) (ints_lit _ [3] (by simp [In64]) (S := fun _ => True) trivial #[.int .i64 3] 1 rfl rfl (by simp [maxLen]) 3 _ rfl)).mono ?_
  rintro e w4 ⟨rfl, n4, rfl⟩
  have hs : decide (cmpS [3] [3] = 0) = true := by decide
  rw [hs]
  go_wp2_with fail
  go_ret
  exact ⟨rfl, below_draw (HB3.out.trans ((below_alloc _ _).mono HB3.out.size)) _⟩
end Go.Proofs.Yteckkamlaibjbaa
