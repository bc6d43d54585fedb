/- vinculumlaw42.awake. Written by wip/gen42.py. -/
import Derived.Test.YtmahiejfniaahaaGreatDoorArrVv
import Derived.Test.YtmahiejfniaahaaGreatDoorGN
set_option linter.unusedVariables false
set_option linter.unusedSimpArgs false
set_option maxRecDepth 100000
namespace Go.Proofs.YtmahiejfniaahaaGreatDoor
open Go.RowKit
def awT42 : Tree := rowT' [symT ⟨#[97]⟩, symT ⟨#[98]⟩]
theorem tx97 : textS 2 ⟨#[97]⟩ = true := by decide +kernel
theorem tx98 : textS 2 ⟨#[98]⟩ = true := by decide +kernel
theorem awT42_form : formS awT42 = true := by
  simp only [awT42, rowT', symT, formS, formsS, tx0 1 (.inl rfl), tx97, tx98, List.length_cons, List.length_nil]
  decide +kernel
theorem awT42_valid : validS awT42 = true := by
  unfold validS
  rw [awT42_form]
  decide +kernel
theorem awT42_in : posIn awT42 [1] = true := by decide +kernel
theorem awT42_1 : moveS awT42 [1] 1 = ([2], 0) := by
  rw [moveS, if_neg (by simp [awT42_valid]), if_neg (by simp [awT42_in]), if_neg (by omega), if_pos rfl, stepR, if_pos awT42_valid]
  decide +kernel
theorem awT42_2 : moveS awT42 [1] 2 = ([0], 0) := by
  rw [moveS, if_neg (by simp [awT42_valid]), if_neg (by simp [awT42_in])]
  simp
theorem awT42_ok : NodeOk awT42 := ⟨by simp [awT42, rowT', Tree.kind, In64], by simp [awT42, rowT', Tree.cols, In64], Nat.zero_le _⟩
set_option maxHeartbeats 4000000 in
theorem awake42_any (w : World) : Calls Tryz.prog 26 #[] w fun e w' => e = .returned (.bool true) ∧ Below w.heap.size w w' := by
  obtain ⟨W1, hW1⟩ : ∃ W1, w.alloc (.cells #[.int .i64 2, .string ⟨#[97]⟩, .int .i64 0, .slice none 0 0, .int .i64 2, .string ⟨#[98]⟩, .int .i64 0, .slice none 0 0] 24) = W1 := ⟨_, rfl⟩
  have hk1 : SliceR treeE W1 (Lt W1.heap.size) awT42.kids (.slice (some ⟨w.heap.size, 0, none⟩) 2 2) := trees2 w (symT ⟨#[97]⟩) (symT ⟨#[98]⟩) _ _ _ _ _ _ _ _ (sym_cells _ _ _ (sz_le (by decide))) (sym_cells _ _ _ (sz_le (by decide))) w.heap.size rfl 24 W1 hW1.symm
  have hb1 : Below w.heap.size w W1 := by rw [← hW1]; exact bNew _ _
  have HK1 := hid hk1
  have HB1 := hid hb1
  clear hk1 hb1
  go_enter Tryz.func26, Tryz.ntmps26
  go_wp2_with fail
  clear hW1
  refine (toRow42 W1 _ _ _).mono ?_
  rintro e w1 ⟨rfl, hb⟩
  have HT1 := hid hb
  clear hb
  go_upto_region 2 with fail
  obtain ⟨X1, hX1⟩ : ∃ X1, w1.alloc (Obj.cells #[.int .i64 1, .string ⟨#[]⟩, .int .i64 0, .slice (some ⟨w.heap.size, 0, none⟩) 2 2] 24) = X1 := ⟨_, rfl⟩
  rw [hX1]
  have hx1 : MovBox X1 w1.heap.size #[.int .i64 1, .string ⟨#[]⟩, .int .i64 0, .slice (some ⟨w.heap.size, 0, none⟩) 2 2] := by rw [← hX1]; exact MovBox.new _ _ _ _ rfl
  have hx2 : Below w1.heap.size w1 X1 := by rw [← hX1]; exact bNew _ _
  have hx3 : w1.heap.size < X1.heap.size := by rw [← hX1]; simp
  have HX1 := hid hx1
  have HT2 := hid (bCl HT1.out hx2)
  have HX3 := hid hx3
  clear hX1 hx1 hx2 hx3
  go_wp2_with fail
  refine (rule_any _ _ _ _).mono ?_
  rintro e w2 ⟨rfl, hb⟩
  have HT3 := hid (bCl HT2.out hb)
  have HN2 := hid (HX1.out.below hb HX3.out)
  have HZ2 := hid (Nat.lt_of_lt_of_le HX3.out hb.size)
  clear hb
  go_upto_region 3 with fail
  obtain ⟨Y, hY⟩ : ∃ Y, w2.alloc (Obj.cells #[.int .i64 2, .string ⟨#[]⟩, .int .i64 0, .int .i64 1, .int .i64 1, .int .i64 1, .int .i64 0, .int .i64 0, .slice none 0 0, .int .i64 0, .slice none 0 0] 28) = Y := ⟨_, rfl⟩
  rw [hY]
  have hy1 : MovBox Y w2.heap.size #[.int .i64 2, .string ⟨#[]⟩, .int .i64 0, .int .i64 1, .int .i64 1, .int .i64 1, .int .i64 0, .int .i64 0, .slice none 0 0, .int .i64 0, .slice none 0 0] := by rw [← hY]; exact MovBox.new _ _ _ _ rfl
  have hy2 : Below w2.heap.size w2 Y := by rw [← hY]; exact bNew _ _
  have hy3 : w2.heap.size < Y.heap.size := by rw [← hY]; simp
  have HTY := hid (bCl HT3.out hy2)
  have HNY := hid (HN2.out.below hy2 HZ2.out)
  have KY : Hid (∀ W, Below Y.heap.size Y W → MovBox W w1.heap.size #[.int .i64 1, .string ⟨#[]⟩, .int .i64 0, .slice (some ⟨w.heap.size, 0, none⟩) 2 2] ∧ MovBox W w2.heap.size #[.int .i64 2, .string ⟨#[]⟩, .int .i64 0, .int .i64 1, .int .i64 1, .int .i64 1, .int .i64 0, .int .i64 0, .slice none 0 0, .int .i64 0, .slice none 0 0] ∧ Below w.heap.size w W ∧ SliceR treeE W (Lt W.heap.size) awT42.kids (.slice (some ⟨w.heap.size, 0, none⟩) 2 2)) := fun W hW => by
    have h := bCl HTY.out hW
    exact ⟨HNY.out.below hW (by have := HZ2.out; have := hy2.size; omega), hy1.below hW hy3, bCl HB1.out h, HK1.out.below h h.size⟩
  have CM1 : Hid (∀ W g, Below Y.heap.size Y W → IntsR W (Lt W.heap.size) [1] (.slice (some ⟨g, 0, none⟩) 1 1) → Calls Tryz.prog 29 #[.agg #[.int .i64 1, .string ⟨#[]⟩, .int .i64 0, .slice (some ⟨w.heap.size, 0, none⟩) 2 2], .agg #[.int .i64 2, .string ⟨#[]⟩, .int .i64 0, .int .i64 1, .int .i64 1, .int .i64 1, .int .i64 0, .int .i64 0, .slice none 0 0, .int .i64 0, .slice none 0 0], .slice (some ⟨g, 0, none⟩) 1 1, .int .i64 1] W (PosRes W ([2], 0))) := fun W g hW hi => by
    have h := move1_any awT42 (ruleB 1 1 1) [1] (some ⟨w.heap.size, 0, none⟩) none none (some ⟨g, 0, none⟩) 2 0 0 1 W (KY.out W hW).2.2.2 awT42_ok (ruleIn W 1 1 1 (by simp [In64]) (by simp [In64]) (by simp [In64])) hi awT42_valid rule1_valid awT42_in
    rw [awT42_1] at h
    exact h
  have CM2 : Hid (∀ W g, Below Y.heap.size Y W → IntsR W (Lt W.heap.size) [1] (.slice (some ⟨g, 0, none⟩) 1 1) → Calls Tryz.prog 29 #[.agg #[.int .i64 1, .string ⟨#[]⟩, .int .i64 0, .slice (some ⟨w.heap.size, 0, none⟩) 2 2], .agg #[.int .i64 2, .string ⟨#[]⟩, .int .i64 0, .int .i64 1, .int .i64 1, .int .i64 1, .int .i64 0, .int .i64 0, .slice none 0 0, .int .i64 0, .slice none 0 0], .slice (some ⟨g, 0, none⟩) 1 1, .int .i64 2] W (PosRes W ([0], 0))) := fun W g hW hi => by
    have h := move2_any awT42 (ruleB 1 1 1) [1] (some ⟨w.heap.size, 0, none⟩) none none (some ⟨g, 0, none⟩) 2 0 0 1 W (KY.out W hW).2.2.2 awT42_ok (ruleIn W 1 1 1 (by simp [In64]) (by simp [In64]) (by simp [In64])) hi awT42_valid rule1_valid awT42_in
    rw [awT42_2] at h
    exact h
  have CM4 : Hid (∀ W g, Below Y.heap.size Y W → IntsR W (Lt W.heap.size) [1] (.slice (some ⟨g, 0, none⟩) 1 1) → Calls Tryz.prog 29 #[.agg #[.int .i64 1, .string ⟨#[]⟩, .int .i64 0, .slice (some ⟨w.heap.size, 0, none⟩) 2 2], .agg #[.int .i64 2, .string ⟨#[]⟩, .int .i64 0, .int .i64 1, .int .i64 1, .int .i64 1, .int .i64 0, .int .i64 0, .slice none 0 0, .int .i64 0, .slice none 0 0], .slice (some ⟨g, 0, none⟩) 1 1, .int .i64 4] W (NoneRes W 8)) := fun W g hW hi => by
    have h := move4_any awT42 (ruleB 1 1 1) [1] (some ⟨w.heap.size, 0, none⟩) none none (some ⟨g, 0, none⟩) 2 0 0 1 W (KY.out W hW).2.2.2 awT42_ok (ruleIn W 1 1 1 (by simp [In64]) (by simp [In64]) (by simp [In64])) hi awT42_valid rule1_valid awT42_in rfl (by simp [ruleB, ruleF, Bx.f])
    exact h
  have HSM : Hid (∀ W x g A c, In64 x → IntsR W (Lt W.heap.size) [x] (.slice A 1 c) → IntsR W (Lt W.heap.size) [x] (.slice (some ⟨g, 0, none⟩) 1 1) → Calls Tryz.prog 25 #[.slice A 1 c, .slice (some ⟨g, 0, none⟩) 1 1] W fun e w' => e = .returned (.bool true) ∧ ∃ n, w' = W.drewN n) := fun W x g A c _ h1 h2 => by
    have h := sameI_q [x] [x] W _ _ A (some ⟨g, 0, none⟩) c 1 h1 h2
    simpa using h
  have HLIT : Hid (∀ (W : World) x g, g = W.heap.size → In64 x → IntsR (W.alloc (.cells #[.int .i64 x] 3)) (Lt (W.alloc (.cells #[.int .i64 x] 3)).heap.size) [x] (.slice (some ⟨g, 0, none⟩) 1 1)) := fun W x g hg hx => ints_lit W [x] (by simpa using hx) (by unfold Lt; simp) _ 1 rfl rfl (by simp [maxLen]) _ _ hg
  have HI64 : Hid (In64 0 ∧ In64 1 ∧ In64 2) := ⟨by simp [In64], by simp [In64], by simp [In64]⟩
  clear hY hy1 hy2 hy3
  obtain ⟨hm, hn, _, _⟩ := KY.out Y (Below.refl _ _)
  have m0 := hm 0 _ rfl
  have m1 := hm 1 _ rfl
  have m2 := hm 2 _ rfl
  have m3 := hm 3 _ rfl
  have n0 := hn 0 _ rfl
  have n1 := hn 1 _ rfl
  have n2 := hn 2 _ rfl
  have n3 := hn 3 _ rfl
  have n4 := hn 4 _ rfl
  have n5 := hn 5 _ rfl
  have n6 := hn 6 _ rfl
  have n7 := hn 7 _ rfl
  have n8 := hn 8 _ rfl
  have n9 := hn 9 _ rfl
  have n10 := hn 10 _ rfl
  clear hm hn
  go_wp2_with fail
  refine (CM1.out _ _ (bNew _ _) (HLIT.out _ _ _ rfl HI64.out.2.1)).mono ?_
  rintro e w3 ⟨hb, v3, rfl, hi⟩
  obtain ⟨A3, c3, rfl⟩ := hi.form
  have HY3 := hid (bCl (bNew _ _) hb)
  have HI3 : Hid (IntsR w3 (Lt w3.heap.size) [2] (.slice A3 1 c3)) := hi.keep (fun _ _ => rfl) (fun k hk => hk.2)
  clear hb hi
  clear m0 m1 m2 m3 n0 n1 n2 n3 n4 n5 n6 n7 n8 n9 n10
  obtain ⟨hm, hn, _, _⟩ := KY.out w3 HY3.out
  have m0 := hm 0 _ rfl
  have m1 := hm 1 _ rfl
  have m2 := hm 2 _ rfl
  have m3 := hm 3 _ rfl
  have n0 := hn 0 _ rfl
  have n1 := hn 1 _ rfl
  have n2 := hn 2 _ rfl
  have n3 := hn 3 _ rfl
  have n4 := hn 4 _ rfl
  have n5 := hn 5 _ rfl
  have n6 := hn 6 _ rfl
  have n7 := hn 7 _ rfl
  have n8 := hn 8 _ rfl
  have n9 := hn 9 _ rfl
  have n10 := hn 10 _ rfl
  clear hm hn
  go_wp2_with fail
  refine (CM2.out _ _ (bAl HY3.out _) (HLIT.out _ _ _ rfl HI64.out.2.1)).mono ?_
  rintro e w4 ⟨hb, v4, rfl, hi⟩
  obtain ⟨A4, c4, rfl⟩ := hi.form
  have HY4 := hid (bCl (bAl HY3.out _) hb)
  have HI4 : Hid (IntsR w4 (Lt w4.heap.size) [0] (.slice A4 1 c4)) := hi.keep (fun _ _ => rfl) (fun k hk => hk.2)
  have HJ4 := hid (HI3.out.below (bCl (bNew _ _) hb) (bCl (bNew _ _) hb).size)
  clear hb hi
  clear m0 m1 m2 m3 n0 n1 n2 n3 n4 n5 n6 n7 n8 n9 n10
  obtain ⟨hm, hn, _, _⟩ := KY.out w4 HY4.out
  have m0 := hm 0 _ rfl
  have m1 := hm 1 _ rfl
  have m2 := hm 2 _ rfl
  have m3 := hm 3 _ rfl
  have n0 := hn 0 _ rfl
  have n1 := hn 1 _ rfl
  have n2 := hn 2 _ rfl
  have n3 := hn 3 _ rfl
  have n4 := hn 4 _ rfl
  have n5 := hn 5 _ rfl
  have n6 := hn 6 _ rfl
  have n7 := hn 7 _ rfl
  have n8 := hn 8 _ rfl
  have n9 := hn 9 _ rfl
  have n10 := hn 10 _ rfl
  clear hm hn
  go_wp2_with fail
  refine (CM4.out _ _ (bAl HY4.out _) (HLIT.out _ _ _ rfl HI64.out.2.1)).mono ?_
  rintro e w5 ⟨rfl, hb⟩
  have HY5 := hid (bCl (bAl HY4.out _) hb)
  have HI5 := hid (HI4.out.below (bCl (bNew _ _) hb) (bCl (bNew _ _) hb).size)
  have HJ5 := hid (HJ4.out.below (bCl (bNew _ _) hb) (bCl (bNew _ _) hb).size)
  clear hb
  clear m0 m1 m2 m3 n0 n1 n2 n3 n4 n5 n6 n7 n8 n9 n10
  go_wp2_with fail
  refine (HSM.out _ _ _ _ _ HI64.out.2.2 (HJ5.out.below (bNew _ _) (bNew _ _).size) (HLIT.out _ _ _ rfl HI64.out.2.2)).mono ?_
  rintro e w6 ⟨rfl, n6, rfl⟩
  go_wp2_with fail
  refine (HSM.out _ _ _ _ _ HI64.out.1 (HI5.out.below (bAl (bDn (bNew _ _) _) _) (bAl (bDn (bNew _ _) _) _).size) (HLIT.out _ _ (w5.heap.size + 1) (by simp) HI64.out.1)).mono ?_
  rintro e w7 ⟨rfl, n7, rfl⟩
  go_wp2_with fail
  go_ret
  exact ⟨rfl, bDn (bAl (bDn (bAl (KY.out w5 HY5.out).2.2.1 _) _) _) _⟩
end Go.Proofs.YtmahiejfniaahaaGreatDoor
