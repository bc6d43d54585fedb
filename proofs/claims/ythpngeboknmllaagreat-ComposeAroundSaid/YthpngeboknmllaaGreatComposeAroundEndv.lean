/- The law ComposeAround holds for every tree, cursor and flag: Unwrap, Split and Grow of package compose answer the records or the errors that the reference of layer 14 does (wherever the bounds of the law itself let it ask), and the call changes nothing that was there. No condition. -/
import Derived.Test.YthpngeboknmllaaGreatQ2ec0
set_option linter.unusedVariables false
set_option linter.unusedSimpArgs false
set_option maxRecDepth 100000
namespace Go.Proofs.YthpngeboknmllaaGreat.composeAround
open Go.ChangeShapes Go.WideShapes Go.ChangeAt Go.RowKit
theorem rd : ∀ t ∈ Tryz.f3.params.toList, Tryz.prog.readableRec t = true ∧ t < Tryz.prog.types.size := by
  rw [Tryz.params3]
  intro t ht
  simp only [List.mem_cons, List.not_mem_nil, or_false] at ht
  rcases ht with rfl | rfl | rfl
  · exact Ux
  · exact zPt
  · exact Uw
set_option maxRecDepth 100000 in
theorem lifted (os : Os) (started : os.Started) (H : Type) (enc : TypeId × Value → H) :
    ReturnsInHanded {} Tryz.checked os 3 .any (Rows.composeAroundSpec.pre6 enc Tryz.prog Tryz.f3 Rows.composeAroundRow.domain false) (Rows.composeAroundSpec.post enc Tryz.prog Tryz.f3 false true false false) := by
  refine returnsInHanded_of_change (C := Tryz.checked) own started (by kernel_rfl) Tryz.func3
    (ChangeSpec.witness6 (enc := enc) (C := Tryz.checked) false ⟨#[], #[.agg #[.int .i64 0, .string ⟨#[]⟩, .int .i64 0, .slice none 0 0], .agg #[.slice none 0 0, .slice none 0 0], .bool false], []⟩ 8 (by kernel_rfl) (by kernel_rfl) (by kernel_rfl) (by kernel_rfl)) ?_
  intro W base args ds gs before hval0 hW _ _
  have hval : ∀ (j : Nat) t v, Tryz.f3.params[j]? = some t → args[j]? = some v → Value.okWide Tryz.prog W .any base t v := hval0
  have hW' := hW
  obtain ⟨p, q, hA0, hV, rfl, hfz, hnd⟩ := hW
  have hA : DataW.TrodAll enc Tryz.prog W 0 (fun _ => true) true Tryz.f3.params.toList args.toList ds p := hA0
  rw [Tryz.params3] at hA hval
  obtain ⟨v0, vs0, dd0, ds0, pp0, q0, hargs, rfl, rfl, h0, r0⟩ := trodAll_cons hA
  obtain ⟨v1, vs1, dd1, ds1, pp1, q1, rfl, rfl, rfl, h1, r1⟩ := trodAll_cons r0
  obtain ⟨v2, vs2, dd2, ds2, pp2, q2, rfl, rfl, rfl, h2, r2⟩ := trodAll_cons r1
  obtain ⟨rfl, rfl, rfl⟩ := trodAll_nil r2
  obtain rfl : args = #[v0, v1, v2] := by cases args; simp_all
  obtain ⟨t0, At0, ct0, rfl, hk0, hc0, htx0, htree0⟩ := zP3 (hval 0 24 v0 rfl rfl) h0
  obtain ⟨p1, m1, Ap1, Am1, cp1, cm1, rfl, hp1, hm1⟩ := zMu (hval 1 27 v1 rfl rfl) h1
  obtain ⟨b2, rfl⟩ := okWide_bool Tryz.underlying4 (hval 2 4 v2 rfl rfl)
  refine (zWf t0 p1 m1 b2 At0 Ap1 Am1 ct0 cp1 cm1 W htree0 ⟨hk0, hc0, htx0⟩ hp1 hm1).mono fun e W' ⟨he, hb⟩ => ?_
  subst he
  exact ⟨_, rfl, VB rfl rfl rfl Uj rd hW' hb⟩
theorem over : Rows.composeAroundRow.holds Tryz.pinned (OpenSpec.ofChange Rows.composeAroundSpec) :=
  OpenClaim.holds_of_wide 3 Tryz.f3 rfl rfl rfl rfl rfl rfl rfl ⟨rfl, rfl, rfl, rfl, rfl⟩ rfl rfl rfl rfl rfl (by kernel_rfl) Tryz.func3 (by kernel_rfl)
    (of_decide_eq_true (by kernel_rfl)) (by unfold Func.isWrapper; first | (rw [if_pos (by decide +kernel)]; kernel_rfl) | (rw [if_neg (by decide +kernel)]; exact ⟨rfl, rfl⟩))
    (fun os started H enc _ => lifted os started H enc)
theorem proved : Rows.ComposeAroundSaid :=
  over
#print axioms proved
