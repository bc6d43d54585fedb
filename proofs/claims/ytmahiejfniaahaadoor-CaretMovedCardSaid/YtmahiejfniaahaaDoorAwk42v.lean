/- vinculumlaw42.awake. Written by wip/gen42.py. -/
import Derived.Test.YtmahiejfniaahaaDoorArrVv
import Derived.Test.YtmahiejfniaahaaDoorGN
set_option linter.unusedVariables false
set_option linter.unusedSimpArgs false
set_option maxRecDepth 100000
namespace Go.Proofs.YtmahiejfniaahaaDoor
open Go.RowKit

def awT42 : Tree := rowT' [symT ⟨#[97]⟩, symT ⟨#[98]⟩]
theorem tx97 : textS 2 ⟨#[97]⟩ = true := by decide +kernel
theorem tx98 : textS 2 ⟨#[98]⟩ = true := by decide +kernel
theorem awT42_form : formS awT42 = true := by
  simp only [awT42, rowT', symT, formS, formsS, tx0 1 (.inl rfl), tx97, tx98, List.length_cons, List.length_nil]
  decide +kernel
theorem awT42_valid : validS awT42 = true := by
  unfold validS
  rw [awT42_form]
  decide +kernel
theorem awT42_in : posIn awT42 [1] = true := by decide +kernel
theorem awT42_1 : moveS awT42 [1] 1 = ([2], 0) := by
  rw [moveS, if_neg (by simp [awT42_valid]), if_neg (by simp [awT42_in]), if_neg (by omega), if_pos rfl, stepR, if_pos awT42_valid]
  decide +kernel
theorem awT42_2 : moveS awT42 [1] 2 = ([0], 0) := by
  rw [moveS, if_neg (by simp [awT42_valid]), if_neg (by simp [awT42_in])]
  simp
theorem awT42_ok : NodeOk awT42 := ⟨by simp [awT42, rowT', Tree.kind, In64], by simp [awT42, rowT', Tree.cols, In64], Nat.zero_le _⟩

end Go.Proofs.YtmahiejfniaahaaDoor
