/- Texts put together. -/
import Derived.Test.YtbjcioknfjofkaaGreatMComposeReinsert24
import Derived.Test.YtbjcioknfjofkaaGreatMComposeReinsert18
set_option linter.unusedVariables false
set_option linter.unusedSimpArgs false
set_option maxRecDepth 100000
namespace Go.Proofs.YtbjcioknfjofkaaGreat
open Go.RowKit
def applyS (t:Tree) (op:OpD):Tree × Int :=
 if validS t = false then (zeroT,1)
 else if formedS op = false then (zeroT,4)
 else if (rowRes t op.row).2≠0 then (zeroT,(rowRes t op.row).2)
 else if (changeS (rowRes t op.row).1.kids op).2≠0 then (zeroT,(changeS (rowRes t op.row).1.kids op).2)
 else if validS (putS t op.row (changeS (rowRes t op.row).1.kids op).1) = false then (zeroT,6)
 else (putS t op.row (changeS (rowRes t op.row).1.kids op).1,0)
def ApplyP (S:Nat→Prop) (w:World) (r:Tree × Int) (e:Ending) (w':World):Prop :=
 ∃ v,e = .returned (.tuple #[.agg #[.int .i64 r.1.kind,.string r.1.text,.int .i64 r.1.cols,v],.int .i64 r.2])∧SliceR treeE w' (NS S w.heap.size w') r.1.kids v∧Below w.heap.size w w'
end Go.Proofs.YtbjcioknfjofkaaGreat
