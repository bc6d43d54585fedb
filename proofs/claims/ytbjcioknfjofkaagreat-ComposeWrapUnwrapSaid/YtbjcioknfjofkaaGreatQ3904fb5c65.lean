/- Texts put together. -/
import Derived.Test.YtbjcioknfjofkaaGreatQ8109803152
import Derived.Test.YtbjcioknfjofkaaGreatQfa0ecd5ee5
set_option linter.unusedVariables false
set_option linter.unusedSimpArgs false
set_option maxRecDepth 100000
namespace Go.Proofs.YtbjcioknfjofkaaGreat
open Go.RowKit
def applyS (t:Tree) (op:OpD):Tree × Int :=
 if validS t = false then (zeroT,1)
 else if formedS op = false then (zeroT,4)
 else if (rowRes t op.row).2≠0 then (zeroT,(rowRes t op.row).2)
 else if (changeS (rowRes t op.row).1.kids op).2≠0 then (zeroT,(changeS (rowRes t op.row).1.kids op).2)
 else if validS (putS t op.row (changeS (rowRes t op.row).1.kids op).1) = false then (zeroT,6)
 else (putS t op.row (changeS (rowRes t op.row).1.kids op).1,0)
end Go.Proofs.YtbjcioknfjofkaaGreat
