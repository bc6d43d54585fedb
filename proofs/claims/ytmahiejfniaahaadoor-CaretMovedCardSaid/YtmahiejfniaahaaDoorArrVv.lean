/- arrow.Move at a valid tree, box and position. Written by wip/genmov.py. -/
import Derived.Test.YtmahiejfniaahaaDoorArrEv
import Derived.Laws.EntriesVeiled
set_option linter.unusedVariables false
set_option linter.unusedSimpArgs false
set_option maxRecDepth 100000
namespace Go.Proofs.YtmahiejfniaahaaDoor
open Go.RowKit

theorem trees_cnt (ts : List Tree) : ts.length ≤ countsS ts := by
  induction ts with
  | nil => simp
  | cons t ts ih => rw [countsS, List.length_cons]; have : 0 < countS t := by { cases t; rw [countS]; omega }; omega
theorem kids_cnt (t : Tree) : t.kids.length ≤ countS t := by
  cases t with
  | mk k s c ts => rw [countS]; have := trees_cnt ts; show ts.length ≤ _; omega
theorem rowRes_rowS {t : Tree} {q : List Int} {t' : Tree} (hv : validS t = true) (h : rowS t q = some t') : rowRes t q = (t', 0) := by
  rw [find_row] at h
  unfold rowRes
  split at h
  · rename_i hf
    injection h with h
    rw [if_neg (by simp [hv]), if_neg (by simp [hf]), h]
  · cases h

end Go.Proofs.YtmahiejfniaahaaDoor
