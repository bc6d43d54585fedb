/- law41.awake. Written by wip/genaw41.py. -/
import Derived.Test.YtmahiejfniaahaaDoorEx41v
import Derived.Test.YtmahiejfniaahaaDoorHitAv
import Derived.Test.YtmahiejfniaahaaDoorGN
set_option linter.unusedVariables false
set_option linter.unusedSimpArgs false
set_option maxRecDepth 100000
namespace Go.Proofs.YtmahiejfniaahaaDoor
open Go.RowKit

theorem ex_all41 : carsR awT42 exB = ([⟨[0], 0, 5, -2⟩, ⟨[1], 12, 5, -2⟩, ⟨[2], 20, 5, -2⟩], 0) := by
  rw [carsR, awT42_valid, exB_valid, if_neg (by simp)]
  kernel_rfl
theorem ex_hit0 : hitR awT42 exB 6 0 = ([0], 0) := by
  rw [hitR_some (by rw [awT42_valid, exB_valid]; rfl) (by decide) ex_all41]
  kernel_rfl
theorem ex_hit1 : hitR awT42 exB 7 9 = ([1], 0) := by
  rw [hitR_some (by rw [awT42_valid, exB_valid]; rfl) (by decide) ex_all41]
  kernel_rfl
theorem ex_dist : distS ⟨[], 12, 5, -2⟩ 7 9 = 9 := by decide

set_option maxHeartbeats 8000000 in
theorem awake41_any (w : World) (htab : TabOk w) : Calls Tryd.prog 13 #[] w fun e w' => e = .returned (.bool true) ∧ Below w.heap.size w w' := by
  have HTAB := hid htab
  have CE := hid (ex41_any w)
  clear htab
  go_enter Tryd.func13, Tryd.ntmps13
  go_wp2_with fail
  refine CE.out.mono ?_
  rintro e w1 ⟨hb1, A, c, Ak, ck, As, cs, rfl, ht1, hx1⟩
  have HB1 := hid hb1
  have HT1 := hid ht1
  have HX1 := hid hx1
  clear hb1 ht1 hx1
  go_upto_region 2 with fail
  obtain ⟨X, hX⟩ : ∃ X, (w1.alloc (.cells #[.int .i64 1, .string ⟨#[]⟩, .int .i64 0, .slice A 2 c] 24)).alloc (.cells #[.int .i64 3, .string ⟨#[]⟩, .int .i64 0, .int .i64 20, .int .i64 5, .int .i64 2, .int .i64 0, .int .i64 0, .slice Ak 2 ck, .int .i64 1, .slice As 0 cs] 28) = X := ⟨_, rfl⟩
  have hbx : Below w1.heap.size w1 X := by rw [← hX]; exact bAl (bNew _ _) _
  have hcx : (BoxL X w1.heap.size 0 [.int .i64 1, .string ⟨#[]⟩, .int .i64 0, .slice A 2 c] ∧ BoxL X (w1.heap.size + 1) 0 [.int .i64 3, .string ⟨#[]⟩, .int .i64 0, .int .i64 20, .int .i64 5, .int .i64 2, .int .i64 0, .int .i64 0, .slice Ak 2 ck, .int .i64 1, .slice As 0 cs]) ∧ X.heap.size = w1.heap.size + 2 := by
    rw [← hX]
    exact ⟨⟨(BoxL.new _ _ _ _ rfl _ rfl).below (bNew _ _) (by simp), BoxL.new _ _ _ _ (by simp) _ rfl⟩, by simp⟩
  rw [hX]
  have KX : Hid (∀ W, Below X.heap.size X W → BoxL W w1.heap.size 0 [.int .i64 1, .string ⟨#[]⟩, .int .i64 0, .slice A 2 c] ∧ BoxL W (w1.heap.size + 1) 0 [.int .i64 3, .string ⟨#[]⟩, .int .i64 0, .int .i64 20, .int .i64 5, .int .i64 2, .int .i64 0, .int .i64 0, .slice Ak 2 ck, .int .i64 1, .slice As 0 cs] ∧ (SliceR treeE W (Lt W.heap.size) awT42.kids (.slice A 2 c) ∧ BoxIn W exB Ak As ck cs) ∧ Below w.heap.size w W) := fun W hW => by
    have h := hbx.trans (hW.mono hbx.size)
    have hz := hcx.2
    exact ⟨hcx.1.1.below hW (by omega), hcx.1.2.below hW (by omega), ⟨HT1.out.below h h.size, HX1.out.below h⟩, HB1.out.trans (h.mono HB1.out.size)⟩
  have CH0 : Hid (∀ W, Below X.heap.size X W → Calls Tryd.prog 27 #[.agg #[.int .i64 1, .string ⟨#[]⟩, .int .i64 0, .slice A 2 c], .agg #[.int .i64 3, .string ⟨#[]⟩, .int .i64 0, .int .i64 20, .int .i64 5, .int .i64 2, .int .i64 0, .int .i64 0, .slice Ak 2 ck, .int .i64 1, .slice As 0 cs], .int .i64 6, .int .i64 0] W (PosRes W ([0], 0))) := fun W hW => by
    obtain ⟨_, _, ⟨a1, a2⟩, a3⟩ := KX.out _ hW
    have hp := hat_any awT42 exB 6 0 A Ak As c ck cs W a1 (Nat.zero_le _) a2 (HTAB.out.below a3)
    rw [ex_hit0] at hp
    exact hp
  have CH1 : Hid (∀ W, Below X.heap.size X W → Calls Tryd.prog 27 #[.agg #[.int .i64 1, .string ⟨#[]⟩, .int .i64 0, .slice A 2 c], .agg #[.int .i64 3, .string ⟨#[]⟩, .int .i64 0, .int .i64 20, .int .i64 5, .int .i64 2, .int .i64 0, .int .i64 0, .slice Ak 2 ck, .int .i64 1, .slice As 0 cs], .int .i64 7, .int .i64 9] W (PosRes W ([1], 0))) := fun W hW => by
    obtain ⟨_, _, ⟨a1, a2⟩, a3⟩ := KX.out _ hW
    have hp := hat_any awT42 exB 7 9 A Ak As c ck cs W a1 (Nat.zero_le _) a2 (HTAB.out.below a3)
    rw [ex_hit1] at hp
    exact hp
  have CDI : Hid (∀ W, Calls Tryd.prog 14 #[.agg #[.slice none 0 0, .int .i64 12, .int .i64 5, .int .i64 (-2)], .int .i64 7, .int .i64 9] W fun e w' => e = .returned (.int .i64 9) ∧ Below W.heap.size W w') := fun W => by
    have h := hdist_any ⟨[], 12, 5, -2⟩ 7 9 none 0 0 W ⟨by simp [Sm], by simp [Sm], by simp [Sm]⟩ (by decide) (by decide)
    rw [ex_dist] at h
    exact h
  clear hX hbx hcx
  obtain ⟨hm, hn, hk, hb⟩ := KX.out X (Below.refl _ _)
  have m0 := hm 0 _ rfl
  have m1 := hm 1 _ rfl
  have m2 := hm 2 _ rfl
  have m3 := hm 3 _ rfl
  have n0 := hn 0 _ rfl
  have n1 := hn 1 _ rfl
  have n2 := hn 2 _ rfl
  have n3 := hn 3 _ rfl
  have n4 := hn 4 _ rfl
  have n5 := hn 5 _ rfl
  have n6 := hn 6 _ rfl
  have n7 := hn 7 _ rfl
  have n8 := hn 8 _ rfl
  have n9 := hn 9 _ rfl
  have n10 := hn 10 _ rfl
  simp only [Nat.zero_add] at m0 m1 m2 m3 n0 n1 n2 n3 n4 n5 n6 n7 n8 n9 n10
  clear hm hn hk hb
  go_wp2_with fail
  refine (CH0.out X (Below.refl _ _)).mono ?_
  rintro e w2 ⟨hb2, v2, rfl, hi2⟩
  obtain ⟨A2, c2, hv2⟩ := hi2.form
  subst hv2
  have HB2 := hid hb2
  have HI2 : Hid (IntsR w2 (Lt w2.heap.size) [0] (.slice A2 1 c2)) := hi2.keep (fun _ _ => rfl) (fun k hk => hk.2)
  clear hb2 hi2
  clear m0 m1 m2 m3 n0 n1 n2 n3 n4 n5 n6 n7 n8 n9 n10
  obtain ⟨hm, hn, hk, hb⟩ := KX.out w2 HB2.out
  have m0 := hm 0 _ rfl
  have m1 := hm 1 _ rfl
  have m2 := hm 2 _ rfl
  have m3 := hm 3 _ rfl
  have n0 := hn 0 _ rfl
  have n1 := hn 1 _ rfl
  have n2 := hn 2 _ rfl
  have n3 := hn 3 _ rfl
  have n4 := hn 4 _ rfl
  have n5 := hn 5 _ rfl
  have n6 := hn 6 _ rfl
  have n7 := hn 7 _ rfl
  have n8 := hn 8 _ rfl
  have n9 := hn 9 _ rfl
  have n10 := hn 10 _ rfl
  simp only [Nat.zero_add] at m0 m1 m2 m3 n0 n1 n2 n3 n4 n5 n6 n7 n8 n9 n10
  clear hm hn hk hb
  go_wp2_with fail
  refine (CH1.out w2 HB2.out).mono ?_
  rintro e w3 ⟨hb3, v3, rfl, hi3⟩
  obtain ⟨A3, c3, hv3⟩ := hi3.form
  subst hv3
  have HB3 := hid hb3
  have HX3 := hid (bCl HB2.out hb3)
  have HI3 : Hid (IntsR w3 (Lt w3.heap.size) [1] (.slice A3 1 c3)) := hi3.keep (fun _ _ => rfl) (fun k hk => hk.2)
  have HI2' := hid (HI2.out.below hb3 hb3.size)
  clear hb3 hi3
  clear m0 m1 m2 m3 n0 n1 n2 n3 n4 n5 n6 n7 n8 n9 n10
  have CS0 : Hid (∀ g, g = w3.heap.size → Calls Tryd.prog 28 #[.slice A2 1 c2, .slice (some ⟨g, 0, none⟩) 1 1] (w3.alloc (.cells #[.int .i64 0] 3)) fun e w' => e = .returned (.bool true) ∧ ∃ n, w' = (w3.alloc (.cells #[.int .i64 0] 3)).drewN n) := fun g hg => by
    have hb := bNew w3 (.cells #[.int .i64 0] 3)
    have h := sameI_q [0] [0] (w3.alloc (.cells #[.int .i64 0] 3)) _ _ A2 (some ⟨g, 0, none⟩) c2 1 (HI2'.out.below hb hb.size) (ints_lit w3 [0] (by simp [In64]) (S := Lt (w3.alloc (.cells #[.int .i64 0] 3)).heap.size) (by unfold Lt; simp) _ 1 rfl rfl (by simp [maxLen]) _ _ hg)
    exact h
  go_wp2_with fail
  refine (CS0.out _ rfl).mono ?_
  rintro e w4 ⟨rfl, n4, hw4⟩
  have hb4 : Below w3.heap.size w3 w4 := by rw [hw4]; exact bDn (bNew _ _) _
  have HB4 := hid hb4
  clear hb4 hw4
  have CS1 : Hid (∀ g, g = w4.heap.size → Calls Tryd.prog 28 #[.slice A3 1 c3, .slice (some ⟨g, 0, none⟩) 1 1] (w4.alloc (.cells #[.int .i64 1] 3)) fun e w' => e = .returned (.bool true) ∧ ∃ n, w' = (w4.alloc (.cells #[.int .i64 1] 3)).drewN n) := fun g hg => by
    have hb := bCl HB4.out (bNew w4 (.cells #[.int .i64 1] 3))
    have h := sameI_q [1] [1] (w4.alloc (.cells #[.int .i64 1] 3)) _ _ A3 (some ⟨g, 0, none⟩) c3 1 (HI3.out.below hb hb.size) (ints_lit w4 [1] (by simp [In64]) (S := Lt (w4.alloc (.cells #[.int .i64 1] 3)).heap.size) (by unfold Lt; simp) _ 1 rfl rfl (by simp [maxLen]) _ _ hg)
    exact h
  go_wp2_with fail
  refine (CS1.out _ rfl).mono ?_
  rintro e w5 ⟨rfl, n5, hw5⟩
  have hb5 : Below w4.heap.size w4 w5 := by rw [hw5]; exact bDn (bNew _ _) _
  have HB5 := hid (bCl HB4.out hb5)
  clear hb5 hw5
  go_wp2_with fail
  refine (CDI.out _).mono ?_
  rintro e w6 ⟨rfl, hb6⟩
  have HBW := hid (KX.out w6 (bCl HX3.out (bCl HB5.out hb6))).2.2.2
  clear hb6
  go_wp2_with fail
  go_ret
  exact ⟨rfl, HBW.out⟩
end Go.Proofs.YtmahiejfniaahaaDoor
