/- T -/
import Derived.Test.YthpngeboknmllaaGreatQ8f5d
import Derived.Shelf.RegionOpen
import Derived.OwnWalkIn
import Derived.TacticsInMore
import Derived.LoopNIn
import Derived.LoopIn
set_option linter.unusedVariables false
set_option linter.unusedSimpArgs false
set_option maxRecDepth 100000
namespace Go.Proofs.YthpngeboknmllaaGreat
open Go Go.RowKit Go.Shelf
attribute [local go_sem] Oper.semAt_some
