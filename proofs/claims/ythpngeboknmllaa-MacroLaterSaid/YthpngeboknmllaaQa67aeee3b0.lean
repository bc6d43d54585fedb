/- Texts put together. -/
import Derived.Test.YthpngeboknmllaaQ2bb3fbb373
import Derived.Test.YthpngeboknmllaaQ1d09c7a60b
set_option linter.unusedVariables false
set_option linter.unusedSimpArgs false
set_option maxRecDepth 100000
namespace Go.Proofs.Ythpngeboknmllaa
open Go.RowKit Go.ChangeShapes Go.WideShapes Go.ChangeAt
theorem own:ownKnob Try.prog.godebug = none:=by kernel_rfl
theorem laidOut:laidOutB Try.prog = true:=by kernel_rfl
theorem rd_nodes:Try.prog.readableRec 23 = true∧23 < Try.prog.types.size:=⟨by kernel_rfl,of_decide_eq_true (by kernel_rfl)⟩
theorem rd_macros:Try.prog.readableRec 22 = true∧22 < Try.prog.types.size:=⟨by kernel_rfl,of_decide_eq_true (by kernel_rfl)⟩
theorem cells_macro:Try.prog.cellsOf 33 = 6:=by kernel_rfl
section
variable {H:Type} {enc:TypeId × Value→H} {w:World} {base:Nat} {spare:Nat→Bool} {held:Bool}
theorem read_macro {fuel : Nat} {cs : List Value} {x : DataW H × List MemPlace} (h : DataW.trod enc Try.prog w base spare held fuel 33 cs = some x) : ∃ d, macE.R w (Lt w.heap.size) d cs := by
  obtain ⟨xs, n, hfu, hx, hlen, hxl, hf⟩ := DataW.trod_struct Try.underlying33 h
  rw [cells_macro] at hlen
  match cs, hlen with
  | [c0, c1, c2, c3, c4, c5], _ =>
    have g0 : DataW.trod enc Try.prog w base spare held n 9 (([c0, c1, c2, c3, c4, c5].drop 0).take (Try.prog.cellsOf 9)) = xs[0]? := hf 0 _ rfl
    rw [cells_str] at g0
    have f0 : DataW.trod enc Try.prog w base spare held n 9 [c0] = xs[0]? := g0
    have g1 : DataW.trod enc Try.prog w base spare held n 3 (([c0, c1, c2, c3, c4, c5].drop 1).take (Try.prog.cellsOf 3)) = xs[1]? := hf 1 _ rfl
    rw [cells_int] at g1
    have f1 : DataW.trod enc Try.prog w base spare held n 3 [c1] = xs[1]? := g1
    have g2 : DataW.trod enc Try.prog w base spare held n 31 (([c0, c1, c2, c3, c4, c5].drop 2).take (Try.prog.cellsOf 31)) = xs[2]? := hf 2 _ rfl
    rw [cells_node] at g2
    have f2 : DataW.trod enc Try.prog w base spare held n 31 [c2, c3, c4, c5] = xs[2]? := g2
    have hxl' : xs.length = 3 := hxl
    obtain ⟨y0, e0⟩ := some_of f0 (by omega)
    obtain ⟨y1, e1⟩ := some_of f1 (by omega)
    obtain ⟨y2, e2⟩ := some_of f2 (by omega)
    obtain ⟨s, q0, h0⟩ := read_str e0
    obtain ⟨k, q1, h1⟩ := read_int e1
    obtain ⟨t, h2⟩ := read_tree n _ _ e2
    obtain ⟨tk, tx, tc, ts⟩ := t
    obtain ⟨v, q2, h3, h4, h5, h6⟩ := treeR_mk.1 h2
    simp only [List.cons.injEq, and_true] at q0 q1 q2
    obtain ⟨r0, r1, r2, r3⟩ := q2
    subst q0 q1 r0 r1 r2 r3
    exact ⟨⟨s, k, .mk tk tx tc ts⟩, _, rfl, h0, h1, ⟨h3, h4, h5⟩, h6⟩
theorem open_macros {r:Reach} {b0:Nat} {v:Value} {d:DataW H} {ps:List MemPlace} (hv:Value.okWide Try.prog w r b0 22 v) (h:DataW.Trod enc Try.prog w base spare held 22 v d ps) :
  ∃ (xs:List MacD) (A:Option Addr) (c:Nat),v = .slice A xs.length c∧SliceR macE w (Lt w.heap.size) xs (.slice A xs.length c):=by
 obtain ⟨a,l,c,rfl⟩:=okWide_slice Try.underlying22 hv
 obtain ⟨fuel,hf⟩:=h
 obtain ⟨xs,v,hcs,hx⟩:=read_slice macE Try.underlying22 cells_macro (fun m _ cs x h=>read_macro h) hf
 obtain ⟨A,c',rfl⟩:=hx.form
 have e:Value.slice a l c = .slice A xs.length c':=by simpa [Value.cells] using hcs
 exact ⟨xs,A,c',e,hx⟩
theorem open_nodes {r:Reach} {b0:Nat} {v:Value} {d:DataW H} {ps:List MemPlace} (hv:Value.okWide Try.prog w r b0 23 v) (h:DataW.Trod enc Try.prog w base spare held 23 v d ps) :
  ∃ (xs:List Tree) (A:Option Addr) (c:Nat),v = .slice A xs.length c∧TreesS w (Lt w.heap.size) xs (.slice A xs.length c):=by
 obtain ⟨a,l,c,rfl⟩:=okWide_slice Try.underlying23 hv
 obtain ⟨fuel,hf⟩:=h
 obtain ⟨xs,v,hcs,hx⟩:=read_nodes hf
 obtain ⟨A,c',rfl⟩:=hx.form
 have e:Value.slice a l c = .slice A xs.length c':=by simpa [Value.cells] using hcs
 exact ⟨xs,A,c',e,hx⟩
end
end Go.Proofs.Ythpngeboknmllaa
