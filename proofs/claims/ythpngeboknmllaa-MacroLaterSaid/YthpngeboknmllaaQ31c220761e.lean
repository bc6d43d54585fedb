/- Texts put together. -/
import Derived.Test.YthpngeboknmllaaQe06f35c01b
import Derived.Test.YthpngeboknmllaaQ4f1bb1657c
import Derived.Lib.AppendZerosOnto
import Derived.Lib.AppendZeros
import Derived.OwnWalk
import Derived.RegionTactic
set_option linter.unusedVariables false
set_option linter.unusedSimpArgs false
namespace Go.Proofs.Ythpngeboknmllaa
open Go.RowKit
theorem qP (a:Act) (t:Tmp) (v:Value):a.put (some t) v = { a with tmps:=a.tmps.setIfInBounds t v }:=rfl
theorem qN (a:Act) (v:Value):a.put none v = a:=rfl
theorem qS {α:Type} (l:List α) (i:Nat) (x:α):l.toArray.setIfInBounds i x = (l.set i x).toArray:=by simp
theorem qZ {α:Type} (a x:α) (l:List α):(a :: l).set 0 x = x :: l:=rfl
theorem qC {α:Type} (a x:α) (l:List α) (i:Nat):(a :: l).set (i + 1) x = a :: l.set i x:=rfl
theorem heapNew (W:World) (o:Obj) (b:Nat) (hb:b = W.heap.size):(W.alloc o).heap[b]? = some o:=by subst hb;exact heap_alloc_new W o
end Go.Proofs.Ythpngeboknmllaa
