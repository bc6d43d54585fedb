/- law40.example: the row and the box of the document's example. Written by wip/genex.py. -/
import Derived.Test.YtmahiejfniaahaaDoorHE
import Derived.Test.YtmahiejfniaahaaDoorAwk42v
import Derived.Test.YtmahiejfniaahaaDoorHC
import Derived.Deep.RegionHeld3
set_option linter.unusedVariables false
set_option linter.unusedSimpArgs false
set_option maxRecDepth 100000
namespace Go.Proofs.YtmahiejfniaahaaDoor
open Go.RowKit

def exK2 : Bx := .mk ⟨2, ⟨#[]⟩, 0, 6, 3, 2, 14, 0, 0, []⟩ []
def exB : Bx := .mk ⟨3, ⟨#[]⟩, 0, 20, 5, 2, 0, 0, 1, []⟩ [ruleB 10 5 0, exK2]
theorem exB_valid : validB exB = true := by decide +kernel
def ExRes (w : World) (e : Ending) (w' : World) : Prop := Below w.heap.size w w' ∧ ∃ A c Ak ck As cs, e = .returned (.tuple #[.agg #[.int .i64 1, .string ⟨#[]⟩, .int .i64 0, .slice A 2 c], .agg #[.int .i64 3, .string ⟨#[]⟩, .int .i64 0, .int .i64 20, .int .i64 5, .int .i64 2, .int .i64 0, .int .i64 0, .slice Ak 2 ck, .int .i64 1, .slice As 0 cs]]) ∧
  SliceR treeE w' (Lt w'.heap.size) awT42.kids (.slice A 2 c) ∧ BoxIn w' exB Ak As ck cs
theorem ex_kids (W : World) (g : Nat) (e : TypeId) (hg : g = W.heap.size) : ∃ cs, Reads (W.alloc (.cells #[.int .i64 2, .string ⟨#[]⟩, .int .i64 0, .int .i64 10, .int .i64 5, .int .i64 0, .int .i64 0, .int .i64 0, .slice none 0 0, .int .i64 0, .slice none 0 0, .int .i64 2, .string ⟨#[]⟩, .int .i64 0, .int .i64 6, .int .i64 3, .int .i64 2, .int .i64 14, .int .i64 0, .slice none 0 0, .int .i64 0, .slice none 0 0] e)) (fun k => k = W.heap.size) (some ⟨g, 0, none⟩) cs ∧ ListR boxE (W.alloc (.cells #[.int .i64 2, .string ⟨#[]⟩, .int .i64 0, .int .i64 10, .int .i64 5, .int .i64 0, .int .i64 0, .int .i64 0, .slice none 0 0, .int .i64 0, .slice none 0 0, .int .i64 2, .string ⟨#[]⟩, .int .i64 0, .int .i64 6, .int .i64 3, .int .i64 2, .int .i64 14, .int .i64 0, .slice none 0 0, .int .i64 0, .slice none 0 0] e)) (fun _ => False) [ruleB 10 5 0, exK2] cs := by
  subst hg
  refine ⟨[.int .i64 2, .string ⟨#[]⟩, .int .i64 0, .int .i64 10, .int .i64 5, .int .i64 0, .int .i64 0, .int .i64 0, .slice none 0 0, .int .i64 0, .slice none 0 0] ++ [.int .i64 2, .string ⟨#[]⟩, .int .i64 0, .int .i64 6, .int .i64 3, .int .i64 2, .int .i64 14, .int .i64 0, .slice none 0 0, .int .i64 0, .slice none 0 0], fun _ => ⟨W.heap.size, 0, rfl, rfl, fun j u hu => ?_⟩, ListR.append (xs := [ruleB 10 5 0]) (ys := [exK2]) (ListR.single (E := boxE) (boxR_mk.2 ⟨_, _, rfl, ?_, SliceR.nil_ 0 (Nat.zero_le _) none, SliceR.nil_ 0 (Nat.zero_le _) none⟩)) (ListR.single (E := boxE) (boxR_mk.2 ⟨_, _, rfl, ?_, SliceR.nil_ 0 (Nat.zero_le _) none, SliceR.nil_ 0 (Nat.zero_le _) none⟩))⟩
  · rw [Nat.zero_add, World.cell?_alloc_new]
    simpa using hu
  · exact ⟨by simp [ruleB, ruleF, Bx.f, In64], Nat.zero_le _, by simp [ruleB, ruleF, Bx.f, In64], by simp [ruleB, ruleF, Bx.f, In64], by simp [ruleB, ruleF, Bx.f, In64], by simp [ruleB, ruleF, Bx.f, In64], by simp [ruleB, ruleF, Bx.f, In64], by simp [ruleB, ruleF, Bx.f, In64], by simp [ruleB, ruleF, Bx.f, In64]⟩
  · exact ⟨by simp [exK2, Bx.f, In64], Nat.zero_le _, by simp [exK2, Bx.f, In64], by simp [exK2, Bx.f, In64], by simp [exK2, Bx.f, In64], by simp [exK2, Bx.f, In64], by simp [exK2, Bx.f, In64], by simp [exK2, Bx.f, In64], by simp [exK2, Bx.f, In64]⟩
theorem trees2S (W : World) (t1 t2 : Tree) (a0 a1 a2 a3 b0 b1 b2 b3 : Value) (h1 : ∀ X, treeE.R X (fun _ => False) t1 [a0, a1, a2, a3]) (h2 : ∀ X, treeE.R X (fun _ => False) t2 [b0, b1, b2, b3]) (g : Nat) (hg : g = W.heap.size) (e : TypeId) :
    SliceR treeE (W.alloc (.cells #[a0, a1, a2, a3, b0, b1, b2, b3] e)) (fun k => k = g) [t1, t2] (.slice (some ⟨g, 0, none⟩) 2 2) := by
  subst hg
  refine ⟨_, _, [a0, a1, a2, a3] ++ [b0, b1, b2, b3], rfl, by simp, by simp [maxLen], fun _ => ⟨W.heap.size, 0, rfl, rfl, fun j u hu => ?_⟩, ListR.append (xs := [t1]) (ys := [t2]) (ListR.single (E := treeE) (treeE.keep (h1 W) (fun _ h => h.elim) (fun _ h => h.elim))) (ListR.single (E := treeE) (treeE.keep (h2 W) (fun _ h => h.elim) (fun _ h => h.elim)))⟩
  rw [Nat.zero_add, World.cell?_alloc_new]
  simpa using hu
set_option maxHeartbeats 16000000 in
theorem ex40_any (w : World) : Calls Tryd.prog 16 #[] w (ExRes w) := by
  obtain ⟨V0, hV0⟩ : ∃ V0, (w.alloc (.cells #[.int .i64 0, .string ⟨#[]⟩, .int .i64 0, .slice none 0 0] 24)).alloc (.cells #[.int .i64 0, .string ⟨#[]⟩, .int .i64 0, .int .i64 0, .int .i64 0, .int .i64 0, .int .i64 0, .int .i64 0, .slice none 0 0, .int .i64 0, .slice none 0 0] 28) = V0 := ⟨_, rfl⟩
  obtain ⟨V1, hV1⟩ : ∃ V1, V0.alloc (.cells #[.int .i64 2, .string ⟨#[97]⟩, .int .i64 0, .slice none 0 0, .int .i64 2, .string ⟨#[98]⟩, .int .i64 0, .slice none 0 0] 24) = V1 := ⟨_, rfl⟩
  have hz0 : V0.heap.size = w.heap.size + 1 + 1 := by rw [← hV0]; simp
  have hb0 : Below w.heap.size w V0 := by rw [← hV0]; exact bAl (bNew _ _) _
  have hb01 : Below V0.heap.size V0 V1 := by rw [← hV1]; exact bNew _ _
  have hz1 : V1.heap.size = w.heap.size + 3 := by rw [← hV1]; simp [hz0]
  have hk1 : SliceR treeE V1 (fun k => k = V0.heap.size) awT42.kids (.slice (some ⟨V0.heap.size, 0, none⟩) 2 2) := by
    rw [← hV1]
    exact trees2S V0 (symT ⟨#[97]⟩) (symT ⟨#[98]⟩) _ _ _ _ _ _ _ _ (fun X => sym_cells X _ _ (sz_le (by decide))) (fun X => sym_cells X _ _ (sz_le (by decide))) V0.heap.size rfl 24
  have hv01 : V0.heap.size < V1.heap.size ∧ w.heap.size + 1 < V0.heap.size := by omega
  have HV01 := hid hv01
  have hr0 : (BoxL V0 w.heap.size 0 [.int .i64 0, .string ⟨#[]⟩, .int .i64 0, .slice none 0 0] ∧ FreeB V0 w.heap.size) ∧ BoxL V0 (w.heap.size + 1) 0 [.int .i64 0, .string ⟨#[]⟩, .int .i64 0, .int .i64 0, .int .i64 0, .int .i64 0, .int .i64 0, .int .i64 0, .slice none 0 0, .int .i64 0, .slice none 0 0] ∧ FreeB V0 (w.heap.size + 1) := by
    rw [← hV0]
    exact ⟨⟨(BoxL.new _ _ _ _ rfl _ rfl).below (bNew _ _) (by simp), (FreeB.new _ _ _ _ rfl).below (bNew _ _) (by simp)⟩, BoxL.new _ _ _ _ (by simp) _ rfl, FreeB.new _ _ _ _ (by simp)⟩
  have K1 : Hid (∀ W, Below V1.heap.size V1 W → BoxL W w.heap.size 0 [.int .i64 0, .string ⟨#[]⟩, .int .i64 0, .slice none 0 0] ∧ FreeB W w.heap.size ∧ BoxL W (w.heap.size + 1) 0 [.int .i64 0, .string ⟨#[]⟩, .int .i64 0, .int .i64 0, .int .i64 0, .int .i64 0, .int .i64 0, .int .i64 0, .slice none 0 0, .int .i64 0, .slice none 0 0] ∧ FreeB W (w.heap.size + 1) ∧ Below w.heap.size w W) := fun W hW => by
    have h := hb01.trans (hW.mono hb01.size)
    exact ⟨hr0.1.1.below h (by omega), hr0.1.2.below h (by omega), hr0.2.1.below h (by omega), hr0.2.2.below h (by omega), hb0.trans (h.mono hb0.size)⟩
  have HK1 := hid hk1
  have HZ1 := hid hz1
  clear hz0 hb0 hb01 hz1 hk1 hr0 hv01
  go_enter Tryd.func16, Tryd.ntmps16
  go_wp2_with fail
  clear hV0 hV1
  refine (toRow42 _ _ _ _).mono ?_
  rintro e w1 ⟨rfl, hb1⟩
  have HT1 := hid hb1
  clear hb1
  go_upto_region 2 with fail
  obtain ⟨X1, hX1⟩ : ∃ X, w1.alloc (.cells #[.int .i64 1, .string ⟨#[]⟩, .int .i64 0, .slice (some ⟨V0.heap.size, 0, none⟩) 2 2] 24) = X := ⟨_, rfl⟩
  have hx1 : Below w1.heap.size w1 X1 ∧ BoxL X1 w1.heap.size 0 [.int .i64 1, .string ⟨#[]⟩, .int .i64 0, .slice (some ⟨V0.heap.size, 0, none⟩) 2 2] ∧ w1.heap.size < X1.heap.size := by rw [← hX1]; exact ⟨bNew _ _, BoxL.new _ _ _ _ rfl _ rfl, by simp⟩
  have HX1 := hid hx1
  rw [hX1]
  clear hX1 hx1
  go_wp2_with fail
  refine (rule_any _ _ _ _).mono ?_
  rintro e w2 ⟨rfl, hb2⟩
  have HT2 := hid hb2
  clear hb2
  go_upto_region 3 with fail
  obtain ⟨X2, hX2⟩ : ∃ X, w2.alloc (.cells #[.int .i64 2, .string ⟨#[]⟩, .int .i64 0, .int .i64 10, .int .i64 5, .int .i64 0, .int .i64 0, .int .i64 0, .slice none 0 0, .int .i64 0, .slice none 0 0] 28) = X := ⟨_, rfl⟩
  have hx2 : Below w2.heap.size w2 X2 ∧ BoxL X2 w2.heap.size 0 [.int .i64 2, .string ⟨#[]⟩, .int .i64 0, .int .i64 10, .int .i64 5, .int .i64 0, .int .i64 0, .int .i64 0, .slice none 0 0, .int .i64 0, .slice none 0 0] ∧ w2.heap.size < X2.heap.size := by rw [← hX2]; exact ⟨bNew _ _, BoxL.new _ _ _ _ rfl _ rfl, by simp⟩
  have HX2 := hid hx2
  rw [hX2]
  clear hX2 hx2
  go_wp2_with fail
  refine (rule_any _ _ _ _).mono ?_
  rintro e w3 ⟨rfl, hb3⟩
  have HT3 := hid hb3
  clear hb3
  go_wp2_with fail
  refine (at28_any _ _ _ _ _ _ _ _ _ _ _ _ _ _ _ _ _ _).mono ?_
  rintro e w4 ⟨rfl, hb4⟩
  have HT4 := hid hb4
  clear hb4
  go_upto_region 4 with fail
  obtain ⟨X4, hX4⟩ : ∃ X, w4.alloc (.cells #[.int .i64 2, .string ⟨#[]⟩, .int .i64 0, .int .i64 6, .int .i64 3, .int .i64 2, .int .i64 14, .int .i64 0, .slice none 0 0, .int .i64 0, .slice none 0 0] 28) = X := ⟨_, rfl⟩
  have hx4 : Below w4.heap.size w4 X4 ∧ BoxL X4 w4.heap.size 0 [.int .i64 2, .string ⟨#[]⟩, .int .i64 0, .int .i64 6, .int .i64 3, .int .i64 2, .int .i64 14, .int .i64 0, .slice none 0 0, .int .i64 0, .slice none 0 0] ∧ w4.heap.size < X4.heap.size := by rw [← hX4]; exact ⟨bNew _ _, BoxL.new _ _ _ _ rfl _ rfl, by simp⟩
  have HX4 := hid hx4
  have hs1 := HT1.out.size
  have hs2 := HT2.out.size
  have hs3 := HT3.out.size
  have hs4 := HT4.out.size
  have hl1 := HX1.out.2.2
  have hl2 := HX2.out.2.2
  have hl4 := hx4.2.2
  have hzz := HZ1.out
  have HY2 : Hid (Below X1.heap.size X1 X2) := HT2.out.trans (HX2.out.1.mono hs2)
  have HY4 : Hid (Below X2.heap.size X2 X4) := (HT3.out.trans (HT4.out.mono hs3)).trans (HX4.out.1.mono (Nat.le_trans hs3 hs4))
  have HY14 : Hid (Below V1.heap.size V1 X4) := ((HT1.out.trans (HX1.out.1.mono hs1)).trans (HY2.out.mono (Nat.le_trans hs1 (Nat.le_of_lt hl1)))).trans (HY4.out.mono (Nat.le_trans (Nat.le_trans hs1 (Nat.le_of_lt hl1)) (Nat.le_trans hs2 (Nat.le_of_lt hl2))))
  have K3 : Hid (∀ W, Below X4.heap.size X4 W → BoxL W w1.heap.size 0 [.int .i64 1, .string ⟨#[]⟩, .int .i64 0, .slice (some ⟨V0.heap.size, 0, none⟩) 2 2] ∧ BoxL W w2.heap.size 0 [.int .i64 2, .string ⟨#[]⟩, .int .i64 0, .int .i64 10, .int .i64 5, .int .i64 0, .int .i64 0, .int .i64 0, .slice none 0 0, .int .i64 0, .slice none 0 0] ∧ BoxL W w4.heap.size 0 [.int .i64 2, .string ⟨#[]⟩, .int .i64 0, .int .i64 6, .int .i64 3, .int .i64 2, .int .i64 14, .int .i64 0, .slice none 0 0, .int .i64 0, .slice none 0 0] ∧ BoxL W w.heap.size 0 [.int .i64 0, .string ⟨#[]⟩, .int .i64 0, .slice none 0 0] ∧ FreeB W w.heap.size ∧ BoxL W (w.heap.size + 1) 0 [.int .i64 0, .string ⟨#[]⟩, .int .i64 0, .int .i64 0, .int .i64 0, .int .i64 0, .int .i64 0, .int .i64 0, .slice none 0 0, .int .i64 0, .slice none 0 0] ∧ FreeB W (w.heap.size + 1) ∧ Below w.heap.size w W) := fun W hW => by
    have h1 := HY4.out.size
    have h2 := HY2.out.size
    obtain ⟨a1, a2, a3, a4, a5⟩ := K1.out W (bCl HY14.out hW)
    refine ⟨((HX1.out.2.1.below HY2.out hl1).below HY4.out (by omega)).below hW (by omega), (HX2.out.2.1.below HY4.out hl2).below hW (by omega), HX4.out.2.1.below hW hl4, a1, a2, a3, a4, a5⟩
  rw [hX4]
  clear hX4 hx4
  have ne1 : ¬ (w1.heap.size = w.heap.size) := by omega
  have ne2 : ¬ (w1.heap.size = w.heap.size + 1) := by omega
  have ne3 : ¬ (w2.heap.size = w.heap.size) := by omega
  have ne4 : ¬ (w2.heap.size = w.heap.size + 1) := by omega
  have ne5 : ¬ (w4.heap.size = w.heap.size) := by omega
  have ne6 : ¬ (w4.heap.size = w.heap.size + 1) := by omega
  have me1 : ¬ (w.heap.size = w1.heap.size) := by omega
  have me2 : ¬ (w.heap.size + 1 = w1.heap.size) := by omega
  have me3 : ¬ (w.heap.size = w2.heap.size) := by omega
  have me4 : ¬ (w.heap.size + 1 = w2.heap.size) := by omega
  have me5 : ¬ (w.heap.size = w4.heap.size) := by omega
  have me6 : ¬ (w.heap.size + 1 = w4.heap.size) := by omega
  have me7 : ¬ (w.heap.size + 1 = w.heap.size) := by omega
  have me8 : ¬ (w.heap.size = w.heap.size + 1) := by omega
  have hsz : w.heap.size + 1 < X4.heap.size := by have := HY14.out.size; omega
  have HSZ := hid hsz
  have CLI : Hid (Calls Tryd.prog 9 #[.int .i64 20, .int .i64 5, .int .i64 2, .slice (some ⟨X4.heap.size, 0, none⟩) 2 2] (X4.alloc (.cells #[.int .i64 2, .string ⟨#[]⟩, .int .i64 0, .int .i64 10, .int .i64 5, .int .i64 0, .int .i64 0, .int .i64 0, .slice none 0 0, .int .i64 0, .slice none 0 0, .int .i64 2, .string ⟨#[]⟩, .int .i64 0, .int .i64 6, .int .i64 3, .int .i64 2, .int .i64 14, .int .i64 0, .slice none 0 0, .int .i64 0, .slice none 0 0] 28)).drew (ListRes (X4.alloc (.cells #[.int .i64 2, .string ⟨#[]⟩, .int .i64 0, .int .i64 10, .int .i64 5, .int .i64 0, .int .i64 0, .int .i64 0, .slice none 0 0, .int .i64 0, .slice none 0 0, .int .i64 2, .string ⟨#[]⟩, .int .i64 0, .int .i64 6, .int .i64 3, .int .i64 2, .int .i64 14, .int .i64 0, .slice none 0 0, .int .i64 0, .slice none 0 0] 28)).drew 20 5 2 [ruleB 10 5 0, exK2] (fun _ => False))) := by
    obtain ⟨cs, h1, h2⟩ := ex_kids X4 X4.heap.size 28 rfl
    exact list28_any 20 5 2 [ruleB 10 5 0, exK2] _ 2 2 (fun _ => False) (fun k => k = X4.heap.size) cs _ rfl (by simp) (fun _ h => h.elim) (fun k h => by rw [h]; show _ < (X4.alloc _).heap.size; simp) (h1.keep (fun _ _ => rfl) (fun _ h => h)) (h2.keep (fun _ _ => rfl) (fun _ h => h))
  have CMK : Hid (∀ W A c, Calls Tryd.prog 31 #[.agg #[.int .i64 3, .string ⟨#[]⟩, .int .i64 0, .int .i64 20, .int .i64 5, .int .i64 2, .int .i64 0, .int .i64 0, .slice A 2 c, .int .i64 0, .slice none 0 0], .int .i64 1, .slice none 0 0] W (MarkRes W (fun v => .agg #[.int .i64 3, .string ⟨#[]⟩, .int .i64 0, .int .i64 20, .int .i64 5, .int .i64 2, .int .i64 0, .int .i64 0, .slice A 2 c, .int .i64 1, v]) [])) := fun W A c => mark28_any 3 ⟨#[]⟩ 0 20 5 2 0 0 0 1 A none none 2 c 0 0 0 [] W (SliceR.nil_ 0 (Nat.zero_le _) none) (by simp)
  have HDB : Hid (Below X4.heap.size X4 (X4.alloc (.cells #[.int .i64 2, .string ⟨#[]⟩, .int .i64 0, .int .i64 10, .int .i64 5, .int .i64 0, .int .i64 0, .int .i64 0, .slice none 0 0, .int .i64 0, .slice none 0 0, .int .i64 2, .string ⟨#[]⟩, .int .i64 0, .int .i64 6, .int .i64 3, .int .i64 2, .int .i64 14, .int .i64 0, .slice none 0 0, .int .i64 0, .slice none 0 0] 28)).drew) := (bNew _ _).drew
  clear hs1 hs2 hs3 hs4 hl1 hl2 hl4 hzz hsz
  obtain ⟨ha, hb, hc, hr, hf, hs, hg, hbw⟩ := K3.out X4 (Below.refl _ _); have m0 := ha 0 _ rfl; have m1 := ha 1 _ rfl; have m2 := ha 2 _ rfl; have m3 := ha 3 _ rfl; have p0 := hb 0 _ rfl; have p1 := hb 1 _ rfl; have p2 := hb 2 _ rfl; have p3 := hb 3 _ rfl; have p4 := hb 4 _ rfl; have p5 := hb 5 _ rfl; have p6 := hb 6 _ rfl; have p7 := hb 7 _ rfl; have p8 := hb 8 _ rfl; have p9 := hb 9 _ rfl; have p10 := hb 10 _ rfl; have q0 := hc 0 _ rfl; have q1 := hc 1 _ rfl; have q2 := hc 2 _ rfl; have q3 := hc 3 _ rfl; have q4 := hc 4 _ rfl; have q5 := hc 5 _ rfl; have q6 := hc 6 _ rfl; have q7 := hc 7 _ rfl; have q8 := hc 8 _ rfl; have q9 := hc 9 _ rfl; have q10 := hc 10 _ rfl; have r0 := hr 0 _ rfl; have r1 := hr 1 _ rfl; have r2 := hr 2 _ rfl; have r3 := hr 3 _ rfl; have f0 := hf 0; have f1 := hf 1; have f2 := hf 2; have f3 := hf 3; have s0 := hs 0 _ rfl; have s1 := hs 1 _ rfl; have s2 := hs 2 _ rfl; have s3 := hs 3 _ rfl; have s4 := hs 4 _ rfl; have s5 := hs 5 _ rfl; have s6 := hs 6 _ rfl; have s7 := hs 7 _ rfl; have s8 := hs 8 _ rfl; have s9 := hs 9 _ rfl; have s10 := hs 10 _ rfl; have g0 := hg 0; have g1 := hg 1; have g2 := hg 2; have g3 := hg 3; have g4 := hg 4; have g5 := hg 5; have g6 := hg 6; have g7 := hg 7; have g8 := hg 8; have g9 := hg 9; have g10 := hg 10; simp only [Nat.zero_add] at m0 m1 m2 m3 p0 p1 p2 p3 p4 p5 p6 p7 p8 p9 p10 q0 q1 q2 q3 q4 q5 q6 q7 q8 q9 q10 r0 r1 r2 r3 s0 s1 s2 s3 s4 s5 s6 s7 s8 s9 s10; clear ha hb hc hr hf hs hg hbw
  go_wp2_with fail
  go_region_held3 (fun w' => w'.cell? ⟨w1.heap.size, 0, none⟩ = some (.int .i64 1) ∧ w'.cell? ⟨w1.heap.size, 1, none⟩ = some (.string ⟨#[]⟩) ∧ w'.cell? ⟨w1.heap.size, 2, none⟩ = some (.int .i64 0) ∧ w'.cell? ⟨w1.heap.size, 3, none⟩ = some (.slice (some ⟨V0.heap.size, 0, none⟩) 2 2) ∧ w'.cell? ⟨w2.heap.size, 0, none⟩ = some (.int .i64 2) ∧ w'.cell? ⟨w2.heap.size, 1, none⟩ = some (.string ⟨#[]⟩) ∧ w'.cell? ⟨w2.heap.size, 2, none⟩ = some (.int .i64 0) ∧ w'.cell? ⟨w2.heap.size, 3, none⟩ = some (.int .i64 10) ∧ w'.cell? ⟨w2.heap.size, 4, none⟩ = some (.int .i64 5) ∧ w'.cell? ⟨w2.heap.size, 5, none⟩ = some (.int .i64 0) ∧ w'.cell? ⟨w2.heap.size, 6, none⟩ = some (.int .i64 0) ∧ w'.cell? ⟨w2.heap.size, 7, none⟩ = some (.int .i64 0) ∧ w'.cell? ⟨w2.heap.size, 8, none⟩ = some (.slice none 0 0) ∧ w'.cell? ⟨w2.heap.size, 9, none⟩ = some (.int .i64 0) ∧ w'.cell? ⟨w2.heap.size, 10, none⟩ = some (.slice none 0 0) ∧ w'.cell? ⟨w4.heap.size, 0, none⟩ = some (.int .i64 2) ∧ w'.cell? ⟨w4.heap.size, 1, none⟩ = some (.string ⟨#[]⟩) ∧ w'.cell? ⟨w4.heap.size, 2, none⟩ = some (.int .i64 0) ∧ w'.cell? ⟨w4.heap.size, 3, none⟩ = some (.int .i64 6) ∧ w'.cell? ⟨w4.heap.size, 4, none⟩ = some (.int .i64 3) ∧ w'.cell? ⟨w4.heap.size, 5, none⟩ = some (.int .i64 2) ∧ w'.cell? ⟨w4.heap.size, 6, none⟩ = some (.int .i64 14) ∧ w'.cell? ⟨w4.heap.size, 7, none⟩ = some (.int .i64 0) ∧ w'.cell? ⟨w4.heap.size, 8, none⟩ = some (.slice none 0 0) ∧ w'.cell? ⟨w4.heap.size, 9, none⟩ = some (.int .i64 0) ∧ w'.cell? ⟨w4.heap.size, 10, none⟩ = some (.slice none 0 0)) (go_keep) (first
    | (go_at_call 9; (with_reducible refine CLI.out.mono ?_); rintro e w5 ⟨hb5, v5, rfl, hk5⟩; obtain ⟨A5, c5, rfl⟩ := hk5.form; have hk5 : BoxesS w5 _ [ruleB 10 5 0, exK2] (.slice A5 2 c5) := hk5; have HK5 := hid hk5; have HB5 := hid (bCl HDB.out hb5); clear hb5 hk5; clear m0 m1 m2 m3 p0 p1 p2 p3 p4 p5 p6 p7 p8 p9 p10 q0 q1 q2 q3 q4 q5 q6 q7 q8 q9 q10 r0 r1 r2 r3 f0 f1 f2 f3 s0 s1 s2 s3 s4 s5 s6 s7 s8 s9 s10 g0 g1 g2 g3 g4 g5 g6 g7 g8 g9 g10; obtain ⟨ha, hb, hc, hr, hf, hs, hg, hbw⟩ := K3.out w5 HB5.out; have m0 := ha 0 _ rfl; have m1 := ha 1 _ rfl; have m2 := ha 2 _ rfl; have m3 := ha 3 _ rfl; have p0 := hb 0 _ rfl; have p1 := hb 1 _ rfl; have p2 := hb 2 _ rfl; have p3 := hb 3 _ rfl; have p4 := hb 4 _ rfl; have p5 := hb 5 _ rfl; have p6 := hb 6 _ rfl; have p7 := hb 7 _ rfl; have p8 := hb 8 _ rfl; have p9 := hb 9 _ rfl; have p10 := hb 10 _ rfl; have q0 := hc 0 _ rfl; have q1 := hc 1 _ rfl; have q2 := hc 2 _ rfl; have q3 := hc 3 _ rfl; have q4 := hc 4 _ rfl; have q5 := hc 5 _ rfl; have q6 := hc 6 _ rfl; have q7 := hc 7 _ rfl; have q8 := hc 8 _ rfl; have q9 := hc 9 _ rfl; have q10 := hc 10 _ rfl; have r0 := hr 0 _ rfl; have r1 := hr 1 _ rfl; have r2 := hr 2 _ rfl; have r3 := hr 3 _ rfl; have f0 := hf 0; have f1 := hf 1; have f2 := hf 2; have f3 := hf 3; have s0 := hs 0 _ rfl; have s1 := hs 1 _ rfl; have s2 := hs 2 _ rfl; have s3 := hs 3 _ rfl; have s4 := hs 4 _ rfl; have s5 := hs 5 _ rfl; have s6 := hs 6 _ rfl; have s7 := hs 7 _ rfl; have s8 := hs 8 _ rfl; have s9 := hs 9 _ rfl; have s10 := hs 10 _ rfl; have g0 := hg 0; have g1 := hg 1; have g2 := hg 2; have g3 := hg 3; have g4 := hg 4; have g5 := hg 5; have g6 := hg 6; have g7 := hg 7; have g8 := hg 8; have g9 := hg 9; have g10 := hg 10; simp only [Nat.zero_add] at m0 m1 m2 m3 p0 p1 p2 p3 p4 p5 p6 p7 p8 p9 p10 q0 q1 q2 q3 q4 q5 q6 q7 q8 q9 q10 r0 r1 r2 r3 s0 s1 s2 s3 s4 s5 s6 s7 s8 s9 s10; clear ha hb hc hr hf hs hg hbw)
    | (go_at_call 31; (with_reducible refine (CMK.out w5 A5 c5).mono ?_); rintro e w6 ⟨hb6, v6, rfl, hi6⟩; obtain ⟨A6, c6, rfl⟩ := hi6.form; have hi6 : IntsR w6 _ [] (.slice A6 0 c6) := hi6; have HI6 := hid hi6; have HB56 := hid hb6; have HB6 := hid (bCl HB5.out hb6); clear hb6 hi6; clear m0 m1 m2 m3 p0 p1 p2 p3 p4 p5 p6 p7 p8 p9 p10 q0 q1 q2 q3 q4 q5 q6 q7 q8 q9 q10 r0 r1 r2 r3 f0 f1 f2 f3 s0 s1 s2 s3 s4 s5 s6 s7 s8 s9 s10 g0 g1 g2 g3 g4 g5 g6 g7 g8 g9 g10; obtain ⟨ha, hb, hc, hr, hf, hs, hg, hbw⟩ := K3.out w6 HB6.out; have m0 := ha 0 _ rfl; have m1 := ha 1 _ rfl; have m2 := ha 2 _ rfl; have m3 := ha 3 _ rfl; have p0 := hb 0 _ rfl; have p1 := hb 1 _ rfl; have p2 := hb 2 _ rfl; have p3 := hb 3 _ rfl; have p4 := hb 4 _ rfl; have p5 := hb 5 _ rfl; have p6 := hb 6 _ rfl; have p7 := hb 7 _ rfl; have p8 := hb 8 _ rfl; have p9 := hb 9 _ rfl; have p10 := hb 10 _ rfl; have q0 := hc 0 _ rfl; have q1 := hc 1 _ rfl; have q2 := hc 2 _ rfl; have q3 := hc 3 _ rfl; have q4 := hc 4 _ rfl; have q5 := hc 5 _ rfl; have q6 := hc 6 _ rfl; have q7 := hc 7 _ rfl; have q8 := hc 8 _ rfl; have q9 := hc 9 _ rfl; have q10 := hc 10 _ rfl; have r0 := hr 0 _ rfl; have r1 := hr 1 _ rfl; have r2 := hr 2 _ rfl; have r3 := hr 3 _ rfl; have f0 := hf 0; have f1 := hf 1; have f2 := hf 2; have f3 := hf 3; have s0 := hs 0 _ rfl; have s1 := hs 1 _ rfl; have s2 := hs 2 _ rfl; have s3 := hs 3 _ rfl; have s4 := hs 4 _ rfl; have s5 := hs 5 _ rfl; have s6 := hs 6 _ rfl; have s7 := hs 7 _ rfl; have s8 := hs 8 _ rfl; have s9 := hs 9 _ rfl; have s10 := hs 10 _ rfl; have g0 := hg 0; have g1 := hg 1; have g2 := hg 2; have g3 := hg 3; have g4 := hg 4; have g5 := hg 5; have g6 := hg 6; have g7 := hg 7; have g8 := hg 8; have g9 := hg 9; have g10 := hg 10; simp only [Nat.zero_add] at m0 m1 m2 m3 p0 p1 p2 p3 p4 p5 p6 p7 p8 p9 p10 q0 q1 q2 q3 q4 q5 q6 q7 q8 q9 q10 r0 r1 r2 r3 s0 s1 s2 s3 s4 s5 s6 s7 s8 s9 s10; clear ha hb hc hr hf hs hg hbw)
    | fail)
  all_goals
    generalize hN : (((w6.setCell _ (.int .i64 1)).setCell _ (.string ⟨#[]⟩)).setCell _ (.int .i64 0)).setCell _ (.slice (some ⟨V0.heap.size, 0, none⟩) 2 2) = WM
    generalize hW : ((((((((((WM.setCell _ (.int .i64 3)).setCell _ (.string ⟨#[]⟩)).setCell _ (.int .i64 0)).setCell _ (.int .i64 20)).setCell _ (.int .i64 5)).setCell _ (.int .i64 2)).setCell _ (.int .i64 0)).setCell _ (.int .i64 0)).setCell _ (.slice A5 2 c5)).setCell _ (.int .i64 1)).setCell _ (.slice A6 0 c6) = WE
    have hs1 := setL [.int .i64 1, .string ⟨#[]⟩, .int .i64 0, .slice (some ⟨V0.heap.size, 0, none⟩) 2 2] w6 w.heap.size 0 (fun j hj => (K3.out w6 HB6.out).2.2.2.1.has j (by simpa using hj))
    rw [show setCells w6 w.heap.size 0 [.int .i64 1, .string ⟨#[]⟩, .int .i64 0, .slice (some ⟨V0.heap.size, 0, none⟩) 2 2] = WM from hN] at hs1
    have hs2 := setL [.int .i64 3, .string ⟨#[]⟩, .int .i64 0, .int .i64 20, .int .i64 5, .int .i64 2, .int .i64 0, .int .i64 0, .slice A5 2 c5, .int .i64 1, .slice A6 0 c6] WM (w.heap.size + 1) 0 (fun j hj => by
      obtain ⟨u, hu⟩ := (K3.out w6 HB6.out).2.2.2.2.2.1.has j (by simpa using hj)
      exact ⟨u, (hs1.other _ (Nat.succ_ne_self _)).trans hu⟩)
    rw [show setCells WM (w.heap.size + 1) 0 [.int .i64 3, .string ⟨#[]⟩, .int .i64 0, .int .i64 20, .int .i64 5, .int .i64 2, .int .i64 0, .int .i64 0, .slice A5 2 c5, .int .i64 1, .slice A6 0 c6] = WE from hW] at hs2
    have hz := hs2.at_
    have hy : BoxL WE w.heap.size 0 [.int .i64 1, .string ⟨#[]⟩, .int .i64 0, .slice (some ⟨V0.heap.size, 0, none⟩) 2 2] := fun j u hu => (hs2.other _ (fun h => Nat.succ_ne_self w.heap.size h.symm)).trans (hs1.at_ j u hu)
    have z0 := hz 0 _ rfl
    have z1 := hz 1 _ rfl
    have z2 := hz 2 _ rfl
    have z3 := hz 3 _ rfl
    have z4 := hz 4 _ rfl
    have z5 := hz 5 _ rfl
    have z6 := hz 6 _ rfl
    have z7 := hz 7 _ rfl
    have z8 := hz 8 _ rfl
    have z9 := hz 9 _ rfl
    have z10 := hz 10 _ rfl
    have y0 := hy 0 _ rfl
    have y1 := hy 1 _ rfl
    have y2 := hy 2 _ rfl
    have y3 := hy 3 _ rfl
    simp only [Nat.zero_add] at z0 z1 z2 z3 z4 z5 z6 z7 z8 z9 z10 y0 y1 y2 y3
    have hbe : Below w.heap.size w6 WE := hs2.below _ _ (Nat.le_succ _) (hs1.below _ _ (Nat.le_refl _) (Below.refl _ _))
    have HBE : Hid (Below w.heap.size w WE) := (K3.out w6 HB6.out).2.2.2.2.2.2.2.trans hbe
    have hsame : ∀ p : Addr, w.heap.size + 1 < p.block → WE.cell? p = w6.cell? p := fun p hp => (hs2.other p (Nat.ne_of_gt hp)).trans (hs1.other p (Nat.ne_of_gt (Nat.lt_of_le_of_lt (Nat.le_succ _) hp)))
    have hsz6 : WE.heap.size = w6.heap.size := hs2.size.trans hs1.size
    have hX6 : X4.heap.size ≤ w6.heap.size := HB6.out.size
    have HT : Hid (SliceR treeE WE (Lt WE.heap.size) awT42.kids (.slice (some ⟨V0.heap.size, 0, none⟩) 2 2)) := HK1.out.keep (fun p hp => by
        have hp' : p.block = V0.heap.size := hp
        exact (hsame p (by rw [hp']; exact HV01.out.2)).trans ((bCl HY14.out HB6.out).cell (by rw [hp']; exact HV01.out.1))) (fun k hk => by
        have hk' : k = V0.heap.size := hk
        show k < WE.heap.size
        have h1 := HY14.out.size
        have h2 := HV01.out.1
        omega)
    have HKB : Hid (BoxesS WE (Lt WE.heap.size) [ruleB 10 5 0, exK2] (.slice A5 2 c5)) := HK5.out.keep (fun p hp => by
        rcases hp with hp | hp
        · exact hp.elim
        · have h1 : X4.heap.size < (X4.alloc (.cells #[.int .i64 2, .string ⟨#[]⟩, .int .i64 0, .int .i64 10, .int .i64 5, .int .i64 0, .int .i64 0, .int .i64 0, .slice none 0 0, .int .i64 0, .slice none 0 0, .int .i64 2, .string ⟨#[]⟩, .int .i64 0, .int .i64 6, .int .i64 3, .int .i64 2, .int .i64 14, .int .i64 0, .slice none 0 0, .int .i64 0, .slice none 0 0] 28)).drew.heap.size := by show _ < (X4.alloc _).heap.size; simp
          exact (hsame p (Nat.lt_trans HSZ.out (Nat.lt_of_lt_of_le h1 hp.1))).trans (HB56.out.cell hp.2)) (fun k hk => by
        rcases hk with hk | hk
        · exact hk.elim
        · show k < WE.heap.size
          have := HB56.out.size
          have := hk.2
          omega)
    have HIS : Hid (IntsR WE (Lt WE.heap.size) [] (.slice A6 0 c6)) := HI6.out.keep (fun p hp => hsame p (by
        have h1 := hp.1
        have h2 := HB5.out.size
        have h3 := HSZ.out
        omega)) (fun k hk => by rw [hsz6]; exact hk.2)
    clear hN hW hs1 hs2 hz hy hbe hsame hsz6 hX6
    clear m0 m1 m2 m3 p0 p1 p2 p3 p4 p5 p6 p7 p8 p9 p10 q0 q1 q2 q3 q4 q5 q6 q7 q8 q9 q10 r0 r1 r2 r3 f0 f1 f2 f3 s0 s1 s2 s3 s4 s5 s6 s7 s8 s9 s10 g0 g1 g2 g3 g4 g5 g6 g7 g8 g9 g10
    go_wp2_with fail
    refine bodyPost_ret (v := .tuple #[.agg #[.int .i64 1, .string ⟨#[]⟩, .int .i64 0, .slice (some ⟨V0.heap.size, 0, none⟩) 2 2], .agg #[.int .i64 3, .string ⟨#[]⟩, .int .i64 0, .int .i64 20, .int .i64 5, .int .i64 2, .int .i64 0, .int .i64 0, .slice A5 2 c5, .int .i64 1, .slice A6 0 c6]]) (by simp [results, Tryd.results16, go_sem, z0, z1, z2, z3, z4, z5, z6, z7, z8, z9, z10, y0, y1, y2, y3]) rfl ?_
    refine ⟨HBE.out, _, _, _, _, _, _, rfl, HT.out, ?_⟩
    exact ⟨⟨by simp [exB, Bx.f, In64], Nat.zero_le _, by simp [exB, Bx.f, In64], by simp [exB, Bx.f, In64], by simp [exB, Bx.f, In64], by simp [exB, Bx.f, In64], by simp [exB, Bx.f, In64], by simp [exB, Bx.f, In64], by simp [exB, Bx.f, In64]⟩, HIS.out, HKB.out⟩
end Go.Proofs.YtmahiejfniaahaaDoor
