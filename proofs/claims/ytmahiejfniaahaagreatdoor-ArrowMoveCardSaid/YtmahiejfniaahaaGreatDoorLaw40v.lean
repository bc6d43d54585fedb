/- ref40.Same; law40: reference, few. Written by wip/genlaw40.py. -/
import Derived.Test.YtmahiejfniaahaaGreatDoorHC
import Derived.Test.YtmahiejfniaahaaGreatDoorHD
import Derived.Test.YtmahiejfniaahaaGreatDoorGN
import Derived.Test.YtmahiejfniaahaaGreatDoorHJ
set_option linter.unusedVariables false
set_option linter.unusedSimpArgs false
set_option maxRecDepth 100000
namespace Go.Proofs.YtmahiejfniaahaaGreatDoor
open Go.RowKit
def few40S (t : Tree) (b : Bx) : Bool := fewS t 40 && fewB b 2000
theorem few40_cnt {t : Tree} {b : Bx} (h : few40S t b = true) : countS t ≤ 40 ∧ cntB b ≤ 2000 := by
  unfold few40S at h
  rw [Bool.and_eq_true] at h
  have h1 := few_count (t := t) (m := 40) h.1
  have h2 := fewB_cnt (b := b) (m := 2000) (by omega) h.2
  exact ⟨by omega, by omega⟩
end Go.Proofs.YtmahiejfniaahaaGreatDoor
