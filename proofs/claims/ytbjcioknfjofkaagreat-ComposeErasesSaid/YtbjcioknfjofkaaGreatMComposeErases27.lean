/- Texts put together. -/
import Derived.Test.YtbjcioknfjofkaaGreatMComposeErases1
import Derived.Test.YtbjcioknfjofkaaGreatMComposeErases2
import Derived.Test.YtbjcioknfjofkaaGreatMComposeErases6
import Derived.RegionTactic
import Derived.BigRegion
import Derived.IntWalk
set_option linter.unusedVariables false
set_option linter.unusedSimpArgs false
set_option maxRecDepth 100000
namespace Go.Proofs.YtbjcioknfjofkaaGreat
open Go.RowKit
def extS (p : List Int) : Int := if p.length = 1 then p.headD 0 else p.headD 0 + 1
set_option maxHeartbeats 1000000 in
theorem extent_q (x : Int) (g o m cap : Nat) (w : World) (a0 : w.cell? ⟨g, o, none⟩ = some (.int .i64 x)) (hgl : g < w.heap.size) (m2 : 0 < m) (hml : m ≤ 9223372036854775807) (hx : 0 ≤ x ∧ x ≤ 1000000) :
    Calls Tryz.prog 177 #[.slice (some ⟨g, o, none⟩) m cap] w fun e w' => e = .returned (.agg #[.int .i64 x, .int .i64 (if m = 1 then x else x + 1)]) ∧ Below w.heap.size w w' := by
  have m0 : (0 : Int) < (m : Int) := by omega
  obtain ⟨hx0, hx1⟩ := hx
  by_cases h1 : m = 1
  · have d1 : ((m : Int) == 1) = true := by rw [h1]; rfl
    rw [if_pos h1]
    clear h1
    go_enter Tryz.func177, Tryz.ntmps177
    go_wp2_with fail
    go_region
    all_goals
      go_wp2_with fail
      exact bodyPost_ret (v := .agg #[.int .i64 x, .int .i64 x]) (by simp [results, Tryz.results177, go_sem]) rfl ⟨rfl, ((Below.refl _ _).alloc (Nat.le_refl _) _).drew⟩
  · have d1 : ((m : Int) == 1) = false := by rw [beq_eq_false_iff_ne]; omega
    rw [if_neg h1]
    clear h1
    have wd : IntKind.i64.wrap (x + 1) = x + 1 := IntWalk.i64_in _ (by omega)
    go_enter Tryz.func177, Tryz.ntmps177
    go_wp2_with fail
    go_region
    all_goals
      go_wp2_with fail
      exact bodyPost_ret (v := .agg #[.int .i64 x, .int .i64 (x + 1)]) (by simp [results, Tryz.results177, go_sem]) rfl ⟨rfl, ((Below.refl _ _).alloc (Nat.le_refl _) _).drew⟩
end Go.Proofs.YtbjcioknfjofkaaGreat
