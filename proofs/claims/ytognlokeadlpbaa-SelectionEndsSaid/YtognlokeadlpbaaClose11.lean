/- Closed facts of this program for the ends of its laws; arguments that came in. -/
import Derived.Test.YtognlokeadlpbaaOpen
set_option linter.unusedVariables false
set_option linter.unusedSimpArgs false
set_option maxRecDepth 100000
namespace Go.Proofs.Ytognlokeadlpbaa
open Go.RowKit Go.ChangeShapes Go.WideShapes Go.ChangeAt

theorem own : ownKnob Try.prog.godebug = none := by kernel_rfl
theorem laidOut : laidOutB Try.prog = true := by kernel_rfl
theorem rd_node : Try.prog.readableRec 24 = true ∧ 24 < Try.prog.types.size := ⟨by kernel_rfl, of_decide_eq_true (by kernel_rfl)⟩
theorem rd_ints : Try.prog.readableRec 25 = true ∧ 25 < Try.prog.types.size := ⟨by kernel_rfl, of_decide_eq_true (by kernel_rfl)⟩
theorem rd_range : Try.prog.readableRec 29 = true ∧ 29 < Try.prog.types.size := ⟨by kernel_rfl, of_decide_eq_true (by kernel_rfl)⟩
theorem rd_int : Try.prog.readableRec 3 = true ∧ 3 < Try.prog.types.size := ⟨by kernel_rfl, of_decide_eq_true (by kernel_rfl)⟩

section
variable {H : Type} {enc : TypeId × Value → H} {w : World} {base : Nat} {spare : Nat → Bool} {held : Bool}
theorem cells_range : Try.prog.cellsOf 29 = 3 := by kernel_rfl

theorem open_intsV {r : Reach} {b0 : Nat} {v : Value} {d : DataW H} {ps : List MemPlace} (hv : Value.okWide Try.prog w r b0 25 v) (h : DataW.Trod enc Try.prog w base spare held 25 v d ps) :
    ∃ (xs : List Int) (A : Option Addr) (c : Nat), v = .slice A xs.length c ∧ IntsR w (Lt w.heap.size) xs (.slice A xs.length c) := by
  obtain ⟨a, l, c, rfl⟩ := okWide_slice Try.underlying25 hv
  obtain ⟨fuel, hf⟩ := h
  obtain ⟨xs, v, hcs, hx⟩ := read_ints hf
  obtain ⟨A, c', rfl⟩ := hx.form
  have e : Value.slice a l c = .slice A xs.length c' := by simpa [Value.cells] using hcs
  exact ⟨xs, A, c', e, hx⟩

/-- An argument that is a tree. -/
theorem open_node {r : Reach} {b0 : Nat} {v : Value} {d : DataW H} {ps : List MemPlace} (hv : Value.okWide Try.prog w r b0 24 v) (h : DataW.Trod enc Try.prog w base spare held 24 v d ps) :
    ∃ (t : Tree) (A : Option Addr) (c : Nat), v = .agg #[.int .i64 t.kind, .string t.text, .int .i64 t.cols, .slice A t.kids.length c] ∧ In64 t.kind ∧ In64 t.cols ∧ t.text.size ≤ maxLen ∧ TreesS w (Lt w.heap.size) t.kids (.slice A t.kids.length c) := by
  obtain ⟨cs, rfl, hsz⟩ := okWide_struct Try.underlying24 hv
  obtain ⟨fuel, hf⟩ := h
  obtain ⟨t, ht⟩ := read_tree fuel _ _ hf
  obtain ⟨v, hcs, h1, h2, h3, h4⟩ := treeR_mk.1 ht
  obtain ⟨A, c, rfl⟩ := h4.form
  refine ⟨t, A, c, ?_, h1, h2, h3, h4⟩
  congr 1
  exact Array.toList_inj.1 hcs

theorem read_range {fuel : Nat} {cs : List Value} {x : DataW H × List MemPlace} (h : DataW.trod enc Try.prog w base spare held fuel 29 cs = some x) :
    ∃ (row : List Int) (x y : Int) (v : Value), cs = [v, .int .i64 x, .int .i64 y] ∧ In64 x ∧ In64 y ∧ IntsR w (Lt w.heap.size) row v := by
  obtain ⟨xs, n, hfu, hx, hlen, hxl, hf⟩ := DataW.trod_struct Try.underlying29 h
  rw [cells_range] at hlen
  match cs, hlen with
  | [c0, c1, c2], _ =>
    have g0 : DataW.trod enc Try.prog w base spare held n 25 (([c0, c1, c2].drop 0).take (Try.prog.cellsOf 25)) = xs[0]? := hf 0 _ rfl
    rw [cells_ints] at g0
    have f0 : DataW.trod enc Try.prog w base spare held n 25 [c0] = xs[0]? := g0
    have g1 : DataW.trod enc Try.prog w base spare held n 3 (([c0, c1, c2].drop 1).take (Try.prog.cellsOf 3)) = xs[1]? := hf 1 _ rfl
    rw [cells_int] at g1
    have f1 : DataW.trod enc Try.prog w base spare held n 3 [c1] = xs[1]? := g1
    have g2 : DataW.trod enc Try.prog w base spare held n 3 (([c0, c1, c2].drop 2).take (Try.prog.cellsOf 3)) = xs[2]? := hf 2 _ rfl
    rw [cells_int] at g2
    have f2 : DataW.trod enc Try.prog w base spare held n 3 [c2] = xs[2]? := g2
    have hxl' : xs.length = 3 := hxl
    obtain ⟨y0, e0⟩ := some_of f0 (by omega)
    obtain ⟨y1, e1⟩ := some_of f1 (by omega)
    obtain ⟨y2, e2⟩ := some_of f2 (by omega)
    obtain ⟨row, vr, q0, hrow⟩ := read_ints e0
    obtain ⟨x, q1, hx1⟩ := read_int e1
    obtain ⟨y, q2, hy1⟩ := read_int e2
    simp only [List.cons.injEq, and_true] at q0 q1 q2
    subst q0 q1 q2
    exact ⟨row, x, y, _, rfl, hx1, hy1, hrow⟩

/-- An argument that is a part of a row. -/
theorem open_range {r : Reach} {b0 : Nat} {v : Value} {d : DataW H} {ps : List MemPlace} (hv : Value.okWide Try.prog w r b0 29 v) (h : DataW.Trod enc Try.prog w base spare held 29 v d ps) :
    ∃ (row : List Int) (x y : Int) (A : Option Addr) (c : Nat), v = .agg #[.slice A row.length c, .int .i64 x, .int .i64 y] ∧ In64 x ∧ In64 y ∧ IntsR w (Lt w.heap.size) row (.slice A row.length c) := by
  obtain ⟨cs, rfl, hsz⟩ := okWide_struct Try.underlying29 hv
  obtain ⟨fuel, hf⟩ := h
  obtain ⟨row, x, y, v, hcs, h1, h2, h3⟩ := read_range hf
  obtain ⟨A, c, rfl⟩ := h3.form
  refine ⟨row, x, y, A, c, ?_, h1, h2, h3⟩
  congr 1
  exact Array.toList_inj.1 hcs
end
end Go.Proofs.Ytognlokeadlpbaa
