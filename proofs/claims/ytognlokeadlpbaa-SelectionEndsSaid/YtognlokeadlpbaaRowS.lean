/- The two ways to say which row a path names. -/
import Derived.Test.YtognlokeadlpbaaFind
import Derived.Test.YtognlokeadlpbaaNode8
set_option linter.unusedVariables false
namespace Go.Proofs.Ytognlokeadlpbaa
open Go.RowKit
theorem find_row : (t : Tree) → (p : List Int) → rowS t p = if (findS t p).2 = true then some (findS t p).1 else none
  | t, [] => by simp [rowS, findS]
  | t, [_] => by simp [rowS, findS]
  | t, i :: k :: p => by
    rw [rowS, findS]
    split
    · split
      · exact find_row _ p
      · simp
    · simp
end Go.Proofs.Ytognlokeadlpbaa
