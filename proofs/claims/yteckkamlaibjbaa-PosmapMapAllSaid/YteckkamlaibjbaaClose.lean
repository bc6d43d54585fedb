/- Closed facts of this program for the ends of its laws; operations that came in. -/
import Derived.Test.YteckkamlaibjbaaOpen
import Derived.Test.YteckkamlaibjbaaPosmapMap
set_option linter.unusedVariables false
set_option linter.unusedSimpArgs false
namespace Go.Proofs.Yteckkamlaibjbaa
open Go.RowKit Go.ChangeShapes Go.WideShapes Go.ChangeAt

theorem own : ownKnob Try.prog.godebug = none := by kernel_rfl
theorem laidOut : laidOutB Try.prog = true := by kernel_rfl
theorem rd_node : Try.prog.readableRec 24 = true ∧ 24 < Try.prog.types.size := ⟨by kernel_rfl, of_decide_eq_true (by kernel_rfl)⟩
theorem rd_op : Try.prog.readableRec 27 = true ∧ 27 < Try.prog.types.size := ⟨by kernel_rfl, of_decide_eq_true (by kernel_rfl)⟩
theorem rd_ints : Try.prog.readableRec 25 = true ∧ 25 < Try.prog.types.size := ⟨by kernel_rfl, of_decide_eq_true (by kernel_rfl)⟩
theorem rd_bool : Try.prog.readableRec 4 = true ∧ 4 < Try.prog.types.size := ⟨by kernel_rfl, of_decide_eq_true (by kernel_rfl)⟩
theorem rd_ops : Try.prog.readableRec 47 = true ∧ 47 < Try.prog.types.size := ⟨by kernel_rfl, of_decide_eq_true (by kernel_rfl)⟩

section
variable {H : Type} {enc : TypeId × Value → H} {w : World} {base : Nat} {spare : Nat → Bool} {held : Bool}
theorem cells_op : Try.prog.cellsOf 27 = 8 := by kernel_rfl

theorem read_op {fuel : Nat} {cs : List Value} {x : DataW H × List MemPlace} (h : DataW.trod enc Try.prog w base spare held fuel 27 cs = some x) : ∃ op, OpR w (Lt w.heap.size) op cs := by
  obtain ⟨xs, n, hfu, hx, hlen, hxl, hf⟩ := DataW.trod_struct Try.underlying27 h
  rw [cells_op] at hlen
  match cs, hlen with
  | [c0, c1, c2, c3, c4, c5, c6, c7], _ =>
    have g0 : DataW.trod enc Try.prog w base spare held n 3 (([c0, c1, c2, c3, c4, c5, c6, c7].drop 0).take (Try.prog.cellsOf 3)) = xs[0]? := hf 0 _ rfl
    rw [cells_int] at g0
    have f0 : DataW.trod enc Try.prog w base spare held n 3 [c0] = xs[0]? := g0
    have g1 : DataW.trod enc Try.prog w base spare held n 25 (([c0, c1, c2, c3, c4, c5, c6, c7].drop 1).take (Try.prog.cellsOf 25)) = xs[1]? := hf 1 _ rfl
    rw [cells_ints] at g1
    have f1 : DataW.trod enc Try.prog w base spare held n 25 [c1] = xs[1]? := g1
    have g2 : DataW.trod enc Try.prog w base spare held n 3 (([c0, c1, c2, c3, c4, c5, c6, c7].drop 2).take (Try.prog.cellsOf 3)) = xs[2]? := hf 2 _ rfl
    rw [cells_int] at g2
    have f2 : DataW.trod enc Try.prog w base spare held n 3 [c2] = xs[2]? := g2
    have g3 : DataW.trod enc Try.prog w base spare held n 3 (([c0, c1, c2, c3, c4, c5, c6, c7].drop 3).take (Try.prog.cellsOf 3)) = xs[3]? := hf 3 _ rfl
    rw [cells_int] at g3
    have f3 : DataW.trod enc Try.prog w base spare held n 3 [c3] = xs[3]? := g3
    have g4 : DataW.trod enc Try.prog w base spare held n 22 (([c0, c1, c2, c3, c4, c5, c6, c7].drop 4).take (Try.prog.cellsOf 22)) = xs[4]? := hf 4 _ rfl
    rw [cells_nodes] at g4
    have f4 : DataW.trod enc Try.prog w base spare held n 22 [c4] = xs[4]? := g4
    have g5 : DataW.trod enc Try.prog w base spare held n 3 (([c0, c1, c2, c3, c4, c5, c6, c7].drop 5).take (Try.prog.cellsOf 3)) = xs[5]? := hf 5 _ rfl
    rw [cells_int] at g5
    have f5 : DataW.trod enc Try.prog w base spare held n 3 [c5] = xs[5]? := g5
    have g6 : DataW.trod enc Try.prog w base spare held n 9 (([c0, c1, c2, c3, c4, c5, c6, c7].drop 6).take (Try.prog.cellsOf 9)) = xs[6]? := hf 6 _ rfl
    rw [cells_str] at g6
    have f6 : DataW.trod enc Try.prog w base spare held n 9 [c6] = xs[6]? := g6
    have g7 : DataW.trod enc Try.prog w base spare held n 9 (([c0, c1, c2, c3, c4, c5, c6, c7].drop 7).take (Try.prog.cellsOf 9)) = xs[7]? := hf 7 _ rfl
    rw [cells_str] at g7
    have f7 : DataW.trod enc Try.prog w base spare held n 9 [c7] = xs[7]? := g7
    have hxl' : xs.length = 8 := hxl
    obtain ⟨y0, e0⟩ := some_of f0 (by omega)
    obtain ⟨y1, e1⟩ := some_of f1 (by omega)
    obtain ⟨y2, e2⟩ := some_of f2 (by omega)
    obtain ⟨y3, e3⟩ := some_of f3 (by omega)
    obtain ⟨y4, e4⟩ := some_of f4 (by omega)
    obtain ⟨y5, e5⟩ := some_of f5 (by omega)
    obtain ⟨y6, e6⟩ := some_of f6 (by omega)
    obtain ⟨y7, e7⟩ := some_of f7 (by omega)
    obtain ⟨k, q0, hk⟩ := read_int e0
    obtain ⟨row, vr, q1, hrow⟩ := read_ints e1
    obtain ⟨at_, q2, hat⟩ := read_int e2
    obtain ⟨m, q3, hm⟩ := read_int e3
    obtain ⟨nodes, vn, q4, hnod⟩ := read_nodes e4
    obtain ⟨slot, q5, hslot⟩ := read_int e5
    obtain ⟨old, q6, hold⟩ := read_str e6
    obtain ⟨text, q7, htext⟩ := read_str e7
    simp only [List.cons.injEq, and_true] at q0 q1 q2 q3 q4 q5 q6 q7
    subst q0 q1 q2 q3 q4 q5 q6 q7
    exact ⟨⟨k, row, at_, m, nodes, slot, old, text⟩, _, _, rfl, hk, hat, hm, hslot, hold, htext, hrow, hnod⟩

/-- An argument that is an operation. -/
theorem open_op {r : Reach} {b0 : Nat} {v : Value} {d : DataW H} {ps : List MemPlace} (hv : Value.okWide Try.prog w r b0 27 v) (h : DataW.Trod enc Try.prog w base spare held 27 v d ps) :
    ∃ (op : OpD) (Ar An : Option Addr) (cr cn : Nat), v = .agg (opC op (.slice Ar op.row.length cr) (.slice An op.nodes.length cn)) ∧ OpIn w op Ar An cr cn := by
  obtain ⟨cs, rfl, hsz⟩ := okWide_struct Try.underlying27 hv
  obtain ⟨fuel, hf⟩ := h
  obtain ⟨op, vr, vn, hcs, h1, h2, h3, h4, h5, h6, h7, h8⟩ := read_op hf
  obtain ⟨Ar, cr, rfl⟩ := h7.form
  obtain ⟨An, cn, rfl⟩ := h8.form
  refine ⟨op, Ar, An, cr, cn, ?_, h1, h2, h3, h4, h5, h6, h7, h8⟩
  congr 1
  exact Array.toList_inj.1 hcs

theorem open_intsV {r : Reach} {b0 : Nat} {v : Value} {d : DataW H} {ps : List MemPlace} (hv : Value.okWide Try.prog w r b0 25 v) (h : DataW.Trod enc Try.prog w base spare held 25 v d ps) :
    ∃ (xs : List Int) (A : Option Addr) (c : Nat), v = .slice A xs.length c ∧ IntsR w (Lt w.heap.size) xs (.slice A xs.length c) := by
  obtain ⟨a, l, c, rfl⟩ := okWide_slice Try.underlying25 hv
  obtain ⟨fuel, hf⟩ := h
  obtain ⟨xs, v, hcs, hx⟩ := read_ints hf
  obtain ⟨A, c', rfl⟩ := hx.form
  have e : Value.slice a l c = .slice A xs.length c' := by simpa [Value.cells] using hcs
  exact ⟨xs, A, c', e, hx⟩

theorem open_opsV {r : Reach} {b0 : Nat} {v : Value} {d : DataW H} {ps : List MemPlace} (hv : Value.okWide Try.prog w r b0 47 v) (h : DataW.Trod enc Try.prog w base spare held 47 v d ps) :
    ∃ (ops : List OpD) (A : Option Addr) (c : Nat), v = .slice A ops.length c ∧ SliceR opE w (Lt w.heap.size) ops (.slice A ops.length c) := by
  obtain ⟨a, l, c, rfl⟩ := okWide_slice Try.underlying47 hv
  obtain ⟨fuel, hf⟩ := h
  obtain ⟨ops, v, hcs, hx⟩ := read_slice opE Try.underlying47 cells_op (fun m _ cs x h => read_op h) hf
  obtain ⟨A, c', rfl⟩ := hx.form
  have e : Value.slice a l c = .slice A ops.length c' := by simpa [Value.cells] using hcs
  exact ⟨ops, A, c', e, hx⟩

/-- An argument that is a tree. -/
theorem open_node {r : Reach} {b0 : Nat} {v : Value} {d : DataW H} {ps : List MemPlace} (hv : Value.okWide Try.prog w r b0 24 v) (h : DataW.Trod enc Try.prog w base spare held 24 v d ps) :
    ∃ (t : Tree) (A : Option Addr) (c : Nat), v = .agg #[.int .i64 t.kind, .string t.text, .int .i64 t.cols, .slice A t.kids.length c] ∧ In64 t.kind ∧ In64 t.cols ∧ t.text.size ≤ maxLen ∧ TreesS w (Lt w.heap.size) t.kids (.slice A t.kids.length c) := by
  obtain ⟨cs, rfl, hsz⟩ := okWide_struct Try.underlying24 hv
  obtain ⟨fuel, hf⟩ := h
  obtain ⟨t, ht⟩ := read_tree fuel _ _ hf
  obtain ⟨v, hcs, h1, h2, h3, h4⟩ := treeR_mk.1 ht
  obtain ⟨A, c, rfl⟩ := h4.form
  refine ⟨t, A, c, ?_, h1, h2, h3, h4⟩
  congr 1
  exact Array.toList_inj.1 hcs
end
end Go.Proofs.Yteckkamlaibjbaa
