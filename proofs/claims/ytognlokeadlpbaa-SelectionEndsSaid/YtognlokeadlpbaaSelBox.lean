/- The two boxes of a law's call: a tree's and a part's. -/
import Derived.Test.YtognlokeadlpbaaSel2
set_option linter.unusedVariables false
set_option linter.unusedSimpArgs false
namespace Go.Proofs.Ytognlokeadlpbaa
open Go.RowKit

/-- The two boxes of a call: a tree's and a part's. -/
def Boxes (w W : World) (k c : Int) (s : ByteArray) (v u : Value) (x y : Int) : Prop :=
  (W.cell? ⟨w.heap.size, 0, none⟩ = some (.int .i64 k) ∧ W.cell? ⟨w.heap.size, 1, none⟩ = some (.string s) ∧ W.cell? ⟨w.heap.size, 2, none⟩ = some (.int .i64 c) ∧ W.cell? ⟨w.heap.size, 3, none⟩ = some v) ∧
  (W.cell? ⟨w.heap.size + 1, 0, none⟩ = some u ∧ W.cell? ⟨w.heap.size + 1, 1, none⟩ = some (.int .i64 x) ∧ W.cell? ⟨w.heap.size + 1, 2, none⟩ = some (.int .i64 y)) ∧ Below w.heap.size w W ∧ w.heap.size + 1 < W.heap.size
theorem boxes (w : World) (k c : Int) (s : ByteArray) (v u : Value) (x y : Int) (W0 : World) (hW0 : (w.alloc (Obj.cells #[.int .i64 k, .string s, .int .i64 c, v] 24)).alloc (.cells #[u, .int .i64 x, .int .i64 y] 29) = W0) :
    ∀ W, Below W0.heap.size W0 W → Boxes w W k c s v u x y := by
  intro W hW
  have hz : W0.heap.size = w.heap.size + 1 + 1 := by rw [← hW0]; simp
  have hc := (bcell hW).1
  have hbb : Below w.heap.size w W0 := by rw [← hW0]; exact bl_alloc (below_allocR' _ _) _
  refine ⟨⟨(hc _ _ (by omega)).trans ?_, (hc _ _ (by omega)).trans ?_, (hc _ _ (by omega)).trans ?_, (hc _ _ (by omega)).trans ?_⟩, ⟨(hc _ _ (by omega)).trans ?_, (hc _ _ (by omega)).trans ?_, (hc _ _ (by omega)).trans ?_⟩, hbb.trans (hW.mono hbb.size), by have := hW.size; omega⟩
  all_goals (rw [← hW0]; first | exact na2_c _ _ _ _ _ _ rfl | exact na_c _ _ _ _ _ (by simp))

end Go.Proofs.Ytognlokeadlpbaa
