/- Arguments that are small arrays of numbers, or a position with a direction. Written by wip/genclosep.py. -/
import Derived.Test.YtmahiejfniaahaaGreatDoorGL
import Derived.OpenShut
set_option linter.unusedVariables false
set_option linter.unusedSimpArgs false
set_option maxRecDepth 100000
namespace Go.Proofs.YtmahiejfniaahaaGreatDoor
open Go.RowKit Go.ChangeShapes Go.WideShapes Go.ChangeAt

theorem okWide_arrP {P : Program} {w : World} {r : Reach} {b0 : Nat} {t e : TypeId} {n : Nat} {v : Value} (ht : P.underlying t = some (.array n e)) (h : Value.okWide P w r b0 t v) : ∃ xs : Array Value, v = .agg xs ∧ xs.size = P.cellsOf t := by
  simp only [Value.okWide, ht] at h
  obtain ⟨cs, h1, h2, _⟩ := h
  exact ⟨cs, h1, h2⟩
theorem rd_pair : Tryz.prog.readableRec 56 = true ∧ 56 < Tryz.prog.types.size := ⟨by kernel_rfl, of_decide_eq_true (by kernel_rfl)⟩
theorem rd_case : Tryz.prog.readableRec 62 = true ∧ 62 < Tryz.prog.types.size := ⟨by kernel_rfl, of_decide_eq_true (by kernel_rfl)⟩
section
variable {H : Type} {enc : TypeId × Value → H} {w : World} {base : Nat} {spare : Nat → Bool} {held : Bool}
theorem open_pair {r : Reach} {b0 : Nat} {v : Value} {d : DataW H} {ps : List MemPlace} (hv : Value.okWide Tryz.prog w r b0 56 v) (h : DataW.Trod enc Tryz.prog w base spare held 56 v d ps) :
    ∃ x y : Int, v = .agg #[.int .i64 x, .int .i64 y] ∧ In64 x ∧ In64 y := by
  have hu : Tryz.prog.underlying 56 = some (.array 2 3) := by kernel_rfl
  have hc : Tryz.prog.cellsOf 56 = 2 := by kernel_rfl
  obtain ⟨cs, rfl, hsz⟩ := okWide_arrP hu hv
  rw [hc] at hsz
  obtain ⟨fuel, hf⟩ := h
  obtain ⟨xs, m, _, _, _, hl, hg⟩ := DataW.trod_array hu hf
  obtain ⟨cs⟩ := cs
  match cs, hsz with
  | [c0, c1], _ =>
    have g0 : DataW.trod enc Tryz.prog w base spare held m 3 (([c0, c1].drop (0 * Tryz.prog.cellsOf 3)).take (Tryz.prog.cellsOf 3)) = xs[0]? := hg 0 (by omega)
    have g1 : DataW.trod enc Tryz.prog w base spare held m 3 (([c0, c1].drop (1 * Tryz.prog.cellsOf 3)).take (Tryz.prog.cellsOf 3)) = xs[1]? := hg 1 (by omega)
    rw [cells_int] at g0 g1
    have f0 : DataW.trod enc Tryz.prog w base spare held m 3 [c0] = xs[0]? := g0
    have f1 : DataW.trod enc Tryz.prog w base spare held m 3 [c1] = xs[1]? := g1
    obtain ⟨y0, e0⟩ := some_of f0 (by omega)
    obtain ⟨y1, e1⟩ := some_of f1 (by omega)
    obtain ⟨x, q0, h0⟩ := read_int e0
    obtain ⟨y, q1, h1⟩ := read_int e1
    simp only [List.cons.injEq, and_true] at q0 q1
    subst q0 q1
    exact ⟨x, y, rfl, h0, h1⟩
theorem open_case {r : Reach} {b0 : Nat} {v : Value} {d : DataW H} {ps : List MemPlace} (hv : Value.okWide Tryz.prog w r b0 62 v) (h : DataW.Trod enc Tryz.prog w base spare held 62 v d ps) :
    ∃ (p : List Int) (n : Int) (A : Option Addr) (c : Nat), v = .agg #[.slice A p.length c, .int .i64 n] ∧ In64 n ∧ IntsR w (Lt w.heap.size) p (.slice A p.length c) := by
  have hc : Tryz.prog.cellsOf 62 = 2 := by kernel_rfl
  obtain ⟨cs, rfl, hsz⟩ := okWide_struct Tryz.underlying62 hv
  rw [hc] at hsz
  obtain ⟨fuel, hf⟩ := h
  obtain ⟨xs, n, hfu, hx, hlen, hxl, hg⟩ := DataW.trod_struct Tryz.underlying62 hf
  obtain ⟨cs⟩ := cs
  match cs, hsz with
  | [c0, c1], _ =>
    have g0 : DataW.trod enc Tryz.prog w base spare held n 26 (([c0, c1].drop 0).take (Tryz.prog.cellsOf 26)) = xs[0]? := hg 0 _ rfl
    have g1 : DataW.trod enc Tryz.prog w base spare held n 3 (([c0, c1].drop 1).take (Tryz.prog.cellsOf 3)) = xs[1]? := hg 1 _ rfl
    rw [cells_ints] at g0
    rw [cells_int] at g1
    have f0 : DataW.trod enc Tryz.prog w base spare held n 26 [c0] = xs[0]? := g0
    have f1 : DataW.trod enc Tryz.prog w base spare held n 3 [c1] = xs[1]? := g1
    have hxl' : xs.length = 2 := hxl
    obtain ⟨y0, e0⟩ := some_of f0 (by omega)
    obtain ⟨y1, e1⟩ := some_of f1 (by omega)
    obtain ⟨p, vp, q0, h0⟩ := read_ints e0
    obtain ⟨k, q1, h1⟩ := read_int e1
    simp only [List.cons.injEq, and_true] at q0 q1
    subst q0 q1
    obtain ⟨A, c, rfl⟩ := h0.form
    exact ⟨p, k, A, c, rfl, h1, h0⟩
end
end Go.Proofs.YtmahiejfniaahaaGreatDoor
