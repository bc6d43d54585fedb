/- The law SelectionEnds holds for every tree and every part of a row: if the part has items, its ends are positions of the tree, and the part between them is the part itself (wherever the law's own bounds let it ask); the call changes nothing that was there. No condition. -/
import Derived.Test.YtognlokeadlpbaaSelEnds
import Derived.Test.YtognlokeadlpbaaClose11
set_option linter.unusedVariables false
set_option linter.unusedSimpArgs false
set_option maxRecDepth 100000
namespace Go.Proofs.Ytognlokeadlpbaa.selectionEnds
open Go.ChangeShapes Go.WideShapes Go.ChangeAt Go.RowKit

theorem rd : ∀ t ∈ Try.f8.params.toList, Try.prog.readableRec t = true ∧ t < Try.prog.types.size := by
  rw [Try.params8]
  intro t ht
  simp only [List.mem_cons, List.not_mem_nil, or_false] at ht
  rcases ht with rfl | rfl
  · exact rd_node
  · exact rd_range

set_option maxRecDepth 100000 in
theorem lifted (os : Os) (started : os.Started) (H : Type) (enc : TypeId × Value → H) :
    ReturnsInHanded {} Try.checked os 8 .any (Rows.selectionEndsSpec.pre6 enc Try.prog Try.f8 Rows.selectionEndsRow.domain false) (Rows.selectionEndsSpec.post enc Try.prog Try.f8 false true false false) := by
  refine returnsInHanded_of_change (C := Try.checked) own started (by kernel_rfl) Try.func8
    (ChangeSpec.witness6 (enc := enc) (C := Try.checked) false ⟨#[], #[.agg #[.int .i64 0, .string ⟨#[]⟩, .int .i64 0, .slice none 0 0], .agg #[.slice none 0 0, .int .i64 0, .int .i64 0]], []⟩ 8 (by kernel_rfl) (by kernel_rfl) (by kernel_rfl) (by kernel_rfl)) ?_
  intro W base args ds gs before hval0 hW _ _
  have hval : ∀ (j : Nat) t v, Try.f8.params[j]? = some t → args[j]? = some v → Value.okWide Try.prog W .any base t v := hval0
  have hW' := hW
  obtain ⟨p, q, hA0, hV, rfl, hfz, hnd⟩ := hW
  have hA : DataW.TrodAll enc Try.prog W 0 (fun _ => true) true Try.f8.params.toList args.toList ds p := hA0
  rw [Try.params8] at hA hval
  obtain ⟨v0, vs0, dd0, ds0, pp0, q0, hargs, rfl, rfl, h0, r0⟩ := trodAll_cons hA
  obtain ⟨v1, vs1, dd1, ds1, pp1, q1, rfl, rfl, rfl, h1, r1⟩ := trodAll_cons r0
  obtain ⟨rfl, rfl, rfl⟩ := trodAll_nil r1
  obtain rfl : args = #[v0, v1] := by cases args; simp_all
  obtain ⟨t0, At0, ct0, rfl, hk0, hc0, htx0, htree0⟩ := open_node (hval 0 24 v0 rfl rfl) h0
  obtain ⟨row1, x1, y1, Ar1, cr1, rfl, hx1, hy1, hrow1⟩ := open_range (hval 1 29 v1 rfl rfl) h1
  refine (selEnds_walk t0 row1 x1 y1 At0 Ar1 ct0 cr1 W htree0 ⟨hk0, hc0, htx0⟩ hrow1 hx1 hy1).mono fun e W' ⟨he, hb⟩ => ?_
  subst he
  exact ⟨_, rfl, law_post rfl rfl rfl laidOut rd hW' hb⟩

theorem over : Rows.selectionEndsRow.holds Try.pinned (OpenSpec.ofChange Rows.selectionEndsSpec) :=
  OpenClaim.holds_of_wide 8 Try.f8 rfl rfl rfl rfl rfl rfl rfl ⟨rfl, rfl, rfl, rfl, rfl⟩ rfl rfl rfl rfl rfl (by kernel_rfl) Try.func8 (by kernel_rfl)
    (of_decide_eq_true (by kernel_rfl)) (by unfold Func.isWrapper; first | (rw [if_pos (by decide +kernel)]; kernel_rfl) | (rw [if_neg (by decide +kernel)]; exact ⟨rfl, rfl⟩))
    (fun os started H enc _ => lifted os started H enc)

theorem proved : Rows.SelectionEndsSaid :=
  over
#print axioms proved
end Go.Proofs.Ytognlokeadlpbaa.selectionEnds
