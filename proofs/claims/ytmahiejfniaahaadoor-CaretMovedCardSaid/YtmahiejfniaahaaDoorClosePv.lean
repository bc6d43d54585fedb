/- Arguments that are small arrays of numbers, or a position with a direction. Written by wip/genclosep.py. -/
import Derived.Test.YtmahiejfniaahaaDoorGL
import Derived.OpenShut
set_option linter.unusedVariables false
set_option linter.unusedSimpArgs false
set_option maxRecDepth 100000
namespace Go.Proofs.YtmahiejfniaahaaDoor
open Go.RowKit Go.ChangeShapes Go.WideShapes Go.ChangeAt

theorem okWide_arrP {P : Program} {w : World} {r : Reach} {b0 : Nat} {t e : TypeId} {n : Nat} {v : Value} (ht : P.underlying t = some (.array n e)) (h : Value.okWide P w r b0 t v) : ∃ xs : Array Value, v = .agg xs ∧ xs.size = P.cellsOf t := by
  simp only [Value.okWide, ht] at h
  obtain ⟨cs, h1, h2, _⟩ := h
  exact ⟨cs, h1, h2⟩
theorem rd_pair : Tryd.prog.readableRec 46 = true ∧ 46 < Tryd.prog.types.size := ⟨by kernel_rfl, of_decide_eq_true (by kernel_rfl)⟩
theorem rd_triple : Tryd.prog.readableRec 45 = true ∧ 45 < Tryd.prog.types.size := ⟨by kernel_rfl, of_decide_eq_true (by kernel_rfl)⟩
theorem rd_pair16 : Tryd.prog.readableRec 30 = true ∧ 30 < Tryd.prog.types.size := ⟨by kernel_rfl, of_decide_eq_true (by kernel_rfl)⟩
section
variable {H : Type} {enc : TypeId × Value → H} {w : World} {base : Nat} {spare : Nat → Bool} {held : Bool}
theorem open_pair {r : Reach} {b0 : Nat} {v : Value} {d : DataW H} {ps : List MemPlace} (hv : Value.okWide Tryd.prog w r b0 46 v) (h : DataW.Trod enc Tryd.prog w base spare held 46 v d ps) :
    ∃ x y : Int, v = .agg #[.int .i64 x, .int .i64 y] ∧ In64 x ∧ In64 y := by
  have hu : Tryd.prog.underlying 46 = some (.array 2 3) := by kernel_rfl
  have hc : Tryd.prog.cellsOf 46 = 2 := by kernel_rfl
  obtain ⟨cs, rfl, hsz⟩ := okWide_arrP hu hv
  rw [hc] at hsz
  obtain ⟨fuel, hf⟩ := h
  obtain ⟨xs, m, _, _, _, hl, hg⟩ := DataW.trod_array hu hf
  obtain ⟨cs⟩ := cs
  match cs, hsz with
  | [c0, c1], _ =>
    have g0 : DataW.trod enc Tryd.prog w base spare held m 3 (([c0, c1].drop (0 * Tryd.prog.cellsOf 3)).take (Tryd.prog.cellsOf 3)) = xs[0]? := hg 0 (by omega)
    have g1 : DataW.trod enc Tryd.prog w base spare held m 3 (([c0, c1].drop (1 * Tryd.prog.cellsOf 3)).take (Tryd.prog.cellsOf 3)) = xs[1]? := hg 1 (by omega)
    rw [cells_int] at g0 g1
    have f0 : DataW.trod enc Tryd.prog w base spare held m 3 [c0] = xs[0]? := g0
    have f1 : DataW.trod enc Tryd.prog w base spare held m 3 [c1] = xs[1]? := g1
    obtain ⟨y0, e0⟩ := some_of f0 (by omega)
    obtain ⟨y1, e1⟩ := some_of f1 (by omega)
    obtain ⟨x, q0, h0⟩ := read_int e0
    obtain ⟨y, q1, h1⟩ := read_int e1
    simp only [List.cons.injEq, and_true] at q0 q1
    subst q0 q1
    exact ⟨x, y, rfl, h0, h1⟩
theorem open_triple {r : Reach} {b0 : Nat} {v : Value} {d : DataW H} {ps : List MemPlace} (hv : Value.okWide Tryd.prog w r b0 45 v) (h : DataW.Trod enc Tryd.prog w base spare held 45 v d ps) :
    ∃ x y z : Int, v = .agg #[.int .i64 x, .int .i64 y, .int .i64 z] ∧ In64 x ∧ In64 y ∧ In64 z := by
  have hu : Tryd.prog.underlying 45 = some (.array 3 3) := by kernel_rfl
  have hc : Tryd.prog.cellsOf 45 = 3 := by kernel_rfl
  obtain ⟨cs, rfl, hsz⟩ := okWide_arrP hu hv
  rw [hc] at hsz
  obtain ⟨fuel, hf⟩ := h
  obtain ⟨xs, m, _, _, _, hl, hg⟩ := DataW.trod_array hu hf
  obtain ⟨cs⟩ := cs
  match cs, hsz with
  | [c0, c1, c2], _ =>
    have g0 : DataW.trod enc Tryd.prog w base spare held m 3 (([c0, c1, c2].drop (0 * Tryd.prog.cellsOf 3)).take (Tryd.prog.cellsOf 3)) = xs[0]? := hg 0 (by omega)
    have g1 : DataW.trod enc Tryd.prog w base spare held m 3 (([c0, c1, c2].drop (1 * Tryd.prog.cellsOf 3)).take (Tryd.prog.cellsOf 3)) = xs[1]? := hg 1 (by omega)
    have g2 : DataW.trod enc Tryd.prog w base spare held m 3 (([c0, c1, c2].drop (2 * Tryd.prog.cellsOf 3)).take (Tryd.prog.cellsOf 3)) = xs[2]? := hg 2 (by omega)
    rw [cells_int] at g0 g1 g2
    have f0 : DataW.trod enc Tryd.prog w base spare held m 3 [c0] = xs[0]? := g0
    have f1 : DataW.trod enc Tryd.prog w base spare held m 3 [c1] = xs[1]? := g1
    have f2 : DataW.trod enc Tryd.prog w base spare held m 3 [c2] = xs[2]? := g2
    obtain ⟨y0, e0⟩ := some_of f0 (by omega)
    obtain ⟨y1, e1⟩ := some_of f1 (by omega)
    obtain ⟨y2, e2⟩ := some_of f2 (by omega)
    obtain ⟨x, q0, h0⟩ := read_int e0
    obtain ⟨y, q1, h1⟩ := read_int e1
    obtain ⟨z, q2, h2⟩ := read_int e2
    simp only [List.cons.injEq, and_true] at q0 q1 q2
    subst q0 q1 q2
    exact ⟨x, y, z, rfl, h0, h1, h2⟩
theorem open_pair16 {r : Reach} {b0 : Nat} {v : Value} {d : DataW H} {ps : List MemPlace} (hv : Value.okWide Tryd.prog w r b0 30 v) (h : DataW.Trod enc Tryd.prog w base spare held 30 v d ps) :
    ∃ x y : Int, v = .agg #[.int .i16 x, .int .i16 y] ∧ (-32768 ≤ x ∧ x ≤ 32767) ∧ (-32768 ≤ y ∧ y ≤ 32767) := by
  have hu : Tryd.prog.underlying 30 = some (.array 2 29) := by kernel_rfl
  have he : Tryd.prog.underlying 29 = some (.int .i16) := by kernel_rfl
  have hc : Tryd.prog.cellsOf 30 = 2 := by kernel_rfl
  have hc1 : Tryd.prog.cellsOf 29 = 1 := by kernel_rfl
  obtain ⟨cs, rfl, hsz⟩ := okWide_arrP hu hv
  rw [hc] at hsz
  obtain ⟨fuel, hf⟩ := h
  obtain ⟨xs, m, _, _, _, hl, hg⟩ := DataW.trod_array hu hf
  obtain ⟨cs⟩ := cs
  match cs, hsz with
  | [c0, c1], _ =>
    have g0 : DataW.trod enc Tryd.prog w base spare held m 29 (([c0, c1].drop (0 * Tryd.prog.cellsOf 29)).take (Tryd.prog.cellsOf 29)) = xs[0]? := hg 0 (by omega)
    have g1 : DataW.trod enc Tryd.prog w base spare held m 29 (([c0, c1].drop (1 * Tryd.prog.cellsOf 29)).take (Tryd.prog.cellsOf 29)) = xs[1]? := hg 1 (by omega)
    rw [hc1] at g0 g1
    have f0 : DataW.trod enc Tryd.prog w base spare held m 29 [c0] = xs[0]? := g0
    have f1 : DataW.trod enc Tryd.prog w base spare held m 29 [c1] = xs[1]? := g1
    obtain ⟨y0, e0⟩ := some_of f0 (by omega)
    obtain ⟨y1, e1⟩ := some_of f1 (by omega)
    obtain ⟨x, q0, _, h0⟩ := DataW.trod_int he e0
    obtain ⟨y, q1, _, h1⟩ := DataW.trod_int he e1
    simp only [List.cons.injEq, and_true] at q0 q1
    subst q0 q1
    exact ⟨x, y, rfl, bounds_i16 h0, bounds_i16 h1⟩
end
end Go.Proofs.YtmahiejfniaahaaDoor
