/- The law PositionComplete holds for every tree: the positions that All of package position returns are strictly increasing, valid, and as many as the rows have items, plus one for each row (wherever the bound of the law on sizes lets it ask), and the call changes nothing that was there. No condition. -/
import Derived.Test.YtognlokeadlpbaaPosCom
import Derived.Test.YtognlokeadlpbaaClose11
set_option linter.unusedVariables false
set_option linter.unusedSimpArgs false
set_option maxRecDepth 100000
namespace Go.Proofs.Ytognlokeadlpbaa.positionComplete
open Go.ChangeShapes Go.WideShapes Go.ChangeAt Go.RowKit

theorem rd : ∀ t ∈ Try.f11.params.toList, Try.prog.readableRec t = true ∧ t < Try.prog.types.size := by
  rw [Try.params11]
  intro t ht
  simp only [List.mem_cons, List.not_mem_nil, or_false] at ht
  subst ht
  exact rd_node

set_option maxRecDepth 100000 in
theorem lifted (os : Os) (started : os.Started) (H : Type) (enc : TypeId × Value → H) :
    ReturnsInHanded {} Try.checked os 11 .any (Rows.positionCompleteSpec.pre6 enc Try.prog Try.f11 Rows.positionCompleteRow.domain false) (Rows.positionCompleteSpec.post enc Try.prog Try.f11 false true false false) := by
  refine returnsInHanded_of_change (C := Try.checked) own started (by kernel_rfl) Try.func11
    (ChangeSpec.witness6 (enc := enc) (C := Try.checked) false ⟨#[], #[.agg #[.int .i64 0, .string ⟨#[]⟩, .int .i64 0, .slice none 0 0]], []⟩ 8 (by kernel_rfl) (by kernel_rfl) (by kernel_rfl) (by kernel_rfl)) ?_
  intro W base args ds gs before hval0 hW _ _
  have hval : ∀ (j : Nat) t v, Try.f11.params[j]? = some t → args[j]? = some v → Value.okWide Try.prog W .any base t v := hval0
  have hW' := hW
  obtain ⟨p, q, hA0, hV, rfl, hfz, hnd⟩ := hW
  have hA : DataW.TrodAll enc Try.prog W 0 (fun _ => true) true Try.f11.params.toList args.toList ds p := hA0
  rw [Try.params11] at hA hval
  obtain ⟨v0, vs0, dd0, ds0, pp0, q0, hargs, rfl, rfl, h0, r0⟩ := trodAll_cons hA
  obtain ⟨rfl, rfl, rfl⟩ := trodAll_nil r0
  obtain rfl : args = #[v0] := by cases args; simp_all
  obtain ⟨t0, At0, ct0, rfl, hk0, hc0, htx0, htree0⟩ := open_node (hval 0 24 v0 rfl rfl) h0
  refine (posCom_walk t0 At0 ct0 W htree0 htx0).mono fun e W' ⟨he, hb⟩ => ?_
  subst he
  exact ⟨_, rfl, law_post rfl rfl rfl laidOut rd hW' hb⟩

theorem over : Rows.positionCompleteRow.holds Try.pinned (OpenSpec.ofChange Rows.positionCompleteSpec) :=
  OpenClaim.holds_of_wide 11 Try.f11 rfl rfl rfl rfl rfl rfl rfl ⟨rfl, rfl, rfl, rfl, rfl⟩ rfl rfl rfl rfl rfl (by kernel_rfl) Try.func11 (by kernel_rfl)
    (of_decide_eq_true (by kernel_rfl)) (by unfold Func.isWrapper; first | (rw [if_pos (by decide +kernel)]; kernel_rfl) | (rw [if_neg (by decide +kernel)]; exact ⟨rfl, rfl⟩))
    (fun os started H enc _ => lifted os started H enc)

theorem proved : Rows.PositionCompleteSaid :=
  over
#print axioms proved
end Go.Proofs.Ytognlokeadlpbaa.positionComplete
