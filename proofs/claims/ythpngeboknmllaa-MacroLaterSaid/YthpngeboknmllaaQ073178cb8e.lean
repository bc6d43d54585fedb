/- Texts put together. -/
import Derived.Test.YthpngeboknmllaaQ31c220761e
import Derived.Test.YthpngeboknmllaaQa6fc42ed80
set_option linter.unusedVariables false
set_option linter.unusedSimpArgs false
set_option maxRecDepth 100000
namespace Go.Proofs.Ythpngeboknmllaa
open Go.RowKit
def HasObj (W:World) (g:Nat) (o:Obj):Prop:=W.heap[g]? = some o
theorem HasObj.lt {W:World} {g:Nat} {o:Obj} (h:HasObj W g o):g < W.heap.size:=(Array.getElem?_eq_some_iff.1 h).1
theorem HasObj.new (W:World) (o:Obj) (g:Nat) (hg:g = W.heap.size):HasObj (W.alloc o) g o:=heapNew W o g hg
theorem HasObj.al {W:World} {g:Nat} {o:Obj} (o':Obj) (h:HasObj W g o):HasObj (W.alloc o') g o:=(Below.heap_alloc _ _ _ h.lt).trans h
theorem HasObj.dr {W:World} {g:Nat} {o:Obj} (h:HasObj W g o):HasObj W.drew g o:=h
theorem HasObj.at0 (W:World) (o:Obj):HasObj (W.alloc o) W.heap.size o:=HasObj.new W o _ rfl
theorem HasObj.at1 (W:World) (p o:Obj):HasObj ((W.alloc p).alloc o) (W.heap.size + 1) o:=HasObj.new _ o _ (by simp)
theorem HasObj.below {W W':World} {g:Nat} {o:Obj} (h:HasObj W g o) (hb:Below W.heap.size W W'):HasObj W' g o:=(hb.block g h.lt).trans h
theorem HasObj.grown {W W':World} {g:Nat} {o:Obj} {row:Option Nat} (h:HasObj W g o) (hg:W.grownBy W' row) (hn:some g≠row):HasObj W' g o:=(hg.block g h.lt hn).trans h
end Go.Proofs.Ythpngeboknmllaa
