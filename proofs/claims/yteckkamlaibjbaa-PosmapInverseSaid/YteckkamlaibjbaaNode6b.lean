/- ref09: ToRow, ValidItems. -/
import Derived.Test.YteckkamlaibjbaaNode6
set_option linter.unusedVariables false
set_option linter.unusedSimpArgs false
namespace Go.Proofs.Yteckkamlaibjbaa
open Go.RowKit

theorem toRow_q (w : World) (A : Option Addr) (n c : Nat) : Calls Try.prog 48 #[.slice A n c] w fun e w' => e = .returned (.agg #[.int .i64 1, .string ⟨#[]⟩, .int .i64 0, .slice A n c]) ∧ Below w.heap.size w w' := by
  go_enter Try.func48, Try.ntmps48
  go_wp2
  exact bodyPost_ret (v := .agg #[.int .i64 1, .string ⟨#[]⟩, .int .i64 0, .slice A n c]) (by simp [results, Try.results48, go_sem]) rfl ⟨rfl, (Below.refl _ _).alloc (Nat.le_refl _) _⟩

theorem validItems_any (ts : List Tree) (A : Option Addr) (cap : Nat) (w : World) (hv : SliceR treeE w (Lt w.heap.size) ts (.slice A ts.length cap)) (hct : countsS ts ≤ 100000000) :
    Calls Try.prog 52 #[.slice A ts.length cap] w fun e w' => e = .returned (.bool (validS (rowT ts))) ∧ Below w.heap.size w w' := by
  have C1 : Hid (∀ W, Below w.heap.size w W → Calls Try.prog 32 #[.agg #[.int .i64 1, .string ⟨#[]⟩, .int .i64 0, .slice A ts.length cap]] W fun e w' => e = .returned (.bool (validS (rowT ts))) ∧ Below W.heap.size W w') :=
    fun W hW => valid_any (rowT ts) A cap W (hv.below hW hW.size) (show (⟨#[]⟩ : ByteArray).size ≤ maxLen from Nat.zero_le _) (by unfold rowT; rw [countS]; omega)
  clear hv hct
  go_enter Try.func52, Try.ntmps52
  go_wp2_with fail
  refine (toRow_q _ _ _ _).mono ?_
  rintro e w1 ⟨rfl, hb1⟩
  have HB1 := hid hb1
  clear hb1
  go_wp2_with fail
  refine (C1.out _ HB1.out).mono ?_
  rintro e w2 ⟨rfl, hb2⟩
  go_wp2_with fail
  go_ret
  exact ⟨rfl, HB1.out.trans (hb2.mono HB1.out.size)⟩
end Go.Proofs.Yteckkamlaibjbaa
