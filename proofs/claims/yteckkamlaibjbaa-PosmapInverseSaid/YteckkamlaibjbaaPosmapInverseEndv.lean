/- The law PosmapInverse holds for every tree, every operation and every list of numbers: if the operation can be applied, the image of a position under it and then under its inverse is the position itself, with the law's own exceptions (wherever the law's own bounds let it ask); the call changes nothing that was there. No condition. -/
import Derived.Test.YteckkamlaibjbaaGN
import Derived.Test.YteckkamlaibjbaaGG
set_option linter.unusedVariables false
set_option linter.unusedSimpArgs false
namespace Go.Proofs.Yteckkamlaibjbaa.posmapInverse
open Go.ChangeShapes Go.WideShapes Go.ChangeAt Go.RowKit

theorem rd : ∀ t ∈ Try.f4.params.toList, Try.prog.readableRec t = true ∧ t < Try.prog.types.size := by
  rw [Try.params4]
  intro t ht
  simp only [List.mem_cons, List.not_mem_nil, or_false] at ht
  rcases ht with rfl | rfl | rfl
  · exact rd_node
  · exact rd_op
  · exact rd_ints

set_option maxRecDepth 100000 in
theorem lifted (os : Os) (started : os.Started) (H : Type) (enc : TypeId × Value → H) :
    ReturnsInHanded {} Try.checked os 4 .any (Rows.posmapInverseSpec.pre6 enc Try.prog Try.f4 Rows.posmapInverseRow.domain false) (Rows.posmapInverseSpec.post enc Try.prog Try.f4 false true false false) := by
  refine returnsInHanded_of_change (C := Try.checked) own started (by kernel_rfl) Try.func4
    (ChangeSpec.witness6 (enc := enc) (C := Try.checked) false ⟨#[], #[.agg #[.int .i64 0, .string ⟨#[]⟩, .int .i64 0, .slice none 0 0], .agg #[.int .i64 0, .slice none 0 0, .int .i64 0, .int .i64 0, .slice none 0 0, .int .i64 0, .string ⟨#[]⟩, .string ⟨#[]⟩], .slice none 0 0], []⟩ 8 (by kernel_rfl) (by kernel_rfl) (by kernel_rfl) (by kernel_rfl)) ?_
  intro W base args ds gs before hval0 hW _ _
  have hval : ∀ (j : Nat) t v, Try.f4.params[j]? = some t → args[j]? = some v → Value.okWide Try.prog W .any base t v := hval0
  have hW' := hW
  obtain ⟨p, q, hA0, hV, rfl, hfz, hnd⟩ := hW
  have hA : DataW.TrodAll enc Try.prog W 0 (fun _ => true) true Try.f4.params.toList args.toList ds p := hA0
  rw [Try.params4] at hA hval
  obtain ⟨v0, vs0, d0, ds0, p0, q0, hargs, rfl, rfl, h0, r0⟩ := trodAll_cons hA
  obtain ⟨v1, vs1, d1, ds1, p1, q1, rfl, rfl, rfl, h1, r1⟩ := trodAll_cons r0
  obtain ⟨v2, vs2, d2, ds2, p2, q2, rfl, rfl, rfl, h2, r2⟩ := trodAll_cons r1
  obtain ⟨rfl, rfl, rfl⟩ := trodAll_nil r2
  obtain rfl : args = #[v0, v1, v2] := by cases args; simp_all
  obtain ⟨t, At, ct, rfl, hk, hc, htx, htree⟩ := open_node (hval 0 24 v0 rfl rfl) h0
  obtain ⟨op, Ar, An, cr, cn, rfl, hop⟩ := open_op (hval 1 27 v1 rfl rfl) h1
  obtain ⟨pos, Ap, cp, rfl, hpos⟩ := open_intsV (hval 2 25 v2 rfl rfl) h2
  refine (pinv_walk t op pos At Ar An Ap ct cr cn cp W htree ⟨hk, hc, htx⟩ hop hpos).mono fun e W' ⟨he, hb⟩ => ?_
  subst he
  exact ⟨_, rfl, law_post rfl rfl rfl laidOut rd hW' hb⟩

theorem over : Rows.posmapInverseRow.holds Try.pinned (OpenSpec.ofChange Rows.posmapInverseSpec) :=
  OpenClaim.holds_of_wide 4 Try.f4 rfl rfl rfl rfl rfl rfl rfl ⟨rfl, rfl, rfl, rfl, rfl⟩ rfl rfl rfl rfl rfl (by kernel_rfl) Try.func4 (by kernel_rfl)
    (of_decide_eq_true (by kernel_rfl)) (by unfold Func.isWrapper; first | (rw [if_pos (by decide +kernel)]; kernel_rfl) | (rw [if_neg (by decide +kernel)]; exact ⟨rfl, rfl⟩))
    (fun os started H enc _ => lifted os started H enc)

theorem proved : Rows.PosmapInverseSaid :=
  over
#print axioms proved
end Go.Proofs.Yteckkamlaibjbaa.posmapInverse
