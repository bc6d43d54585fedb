/- Texts put together: Aw40, Law40. -/
import Derived.Test.YtmahiejfniaahaaDoorEx40v
import Derived.Test.YtmahiejfniaahaaDoorCarPlv
import Derived.Test.YtmahiejfniaahaaDoorCarAlv
import Derived.Test.YtmahiejfniaahaaDoorHC
import Derived.Test.YtmahiejfniaahaaDoorHD
import Derived.Test.YtmahiejfniaahaaDoorGN
import Derived.Test.YtmahiejfniaahaaDoorHJ
/- law40.awake. Written by wip/genaw40.py. -/
set_option linter.unusedVariables false
set_option linter.unusedSimpArgs false
set_option maxRecDepth 100000
namespace Go.Proofs.YtmahiejfniaahaaDoor
open Go.RowKit

theorem ex_place : placeR awT42 exB [1] = (⟨[1], 12, 5, -2⟩, 0) := by
  rw [placeR, awT42_valid, exB_valid, if_neg (by simp), awT42_in, if_neg (by simp)]
  kernel_rfl
theorem ex_all : carsR awT42 exB = ([⟨[0], 0, 5, -2⟩, ⟨[1], 12, 5, -2⟩, ⟨[2], 20, 5, -2⟩], 0) := by
  rw [carsR, awT42_valid, exB_valid, if_neg (by simp)]
  kernel_rfl
theorem cars_at {w : World} {S : Nat → Prop} {ds : List CarD} {A : Option Addr} {cs : List Value} (h3 : Reads w S A cs) (h4 : ListR carE w S ds cs) {k : Nat} (hk : k < ds.length) :
    ∃ g o A' c', A = some ⟨g, o, none⟩ ∧ S g ∧ w.cell? ⟨g, o + k * 4, none⟩ = some (.slice A' ds[k].pos.length c') ∧ w.cell? ⟨g, o + k * 4 + 1, none⟩ = some (.int .i64 ds[k].x) ∧ w.cell? ⟨g, o + k * 4 + 2, none⟩ = some (.int .i64 ds[k].top) ∧ w.cell? ⟨g, o + k * 4 + 3, none⟩ = some (.int .i64 ds[k].bottom) ∧ ds[k].Ok ∧ IntsR w S ds[k].pos (.slice A' ds[k].pos.length c') := by
  obtain ⟨g, o, c, e, hb, ⟨v, rfl, h5, h6⟩, hc⟩ := slice_at h3 h4 hk
  obtain ⟨A', c', rfl⟩ := h6.form
  have hE : carE.size = 4 := rfl
  rw [hE] at hc
  exact ⟨g, o, A', c', e, hb, hc 0 _ rfl, hc 1 _ rfl, hc 2 _ rfl, hc 3 _ rfl, h5, h6⟩

set_option maxHeartbeats 8000000 in
theorem awake40_any (w : World) (htab : TabOk w) : Calls Tryd.prog 5 #[] w fun e w' => e = .returned (.bool true) ∧ Below w.heap.size w w' := by
  have HTAB := hid htab
  have CE := hid (ex40_any w)
  clear htab
  go_enter Tryd.func5, Tryd.ntmps5
  go_wp2_with fail
  refine CE.out.mono ?_
  rintro e w1 ⟨hb1, A, c, Ak, ck, As, cs, rfl, ht1, hx1⟩
  have HB1 := hid hb1
  have HT1 := hid ht1
  have HX1 := hid hx1
  clear hb1 ht1 hx1
  go_upto_region 2 with fail
  obtain ⟨X, hX⟩ : ∃ X, (w1.alloc (.cells #[.int .i64 1, .string ⟨#[]⟩, .int .i64 0, .slice A 2 c] 24)).alloc (.cells #[.int .i64 3, .string ⟨#[]⟩, .int .i64 0, .int .i64 20, .int .i64 5, .int .i64 2, .int .i64 0, .int .i64 0, .slice Ak 2 ck, .int .i64 1, .slice As 0 cs] 28) = X := ⟨_, rfl⟩
  have hbx : Below w1.heap.size w1 X := by rw [← hX]; exact bAl (bNew _ _) _
  have hcx : (BoxL X w1.heap.size 0 [.int .i64 1, .string ⟨#[]⟩, .int .i64 0, .slice A 2 c] ∧ BoxL X (w1.heap.size + 1) 0 [.int .i64 3, .string ⟨#[]⟩, .int .i64 0, .int .i64 20, .int .i64 5, .int .i64 2, .int .i64 0, .int .i64 0, .slice Ak 2 ck, .int .i64 1, .slice As 0 cs]) ∧ X.heap.size = w1.heap.size + 2 := by
    rw [← hX]
    exact ⟨⟨(BoxL.new _ _ _ _ rfl _ rfl).below (bNew _ _) (by simp), BoxL.new _ _ _ _ (by simp) _ rfl⟩, by simp⟩
  rw [hX]
  have KX : Hid (∀ W, Below X.heap.size X W → BoxL W w1.heap.size 0 [.int .i64 1, .string ⟨#[]⟩, .int .i64 0, .slice A 2 c] ∧ BoxL W (w1.heap.size + 1) 0 [.int .i64 3, .string ⟨#[]⟩, .int .i64 0, .int .i64 20, .int .i64 5, .int .i64 2, .int .i64 0, .int .i64 0, .slice Ak 2 ck, .int .i64 1, .slice As 0 cs] ∧ (SliceR treeE W (Lt W.heap.size) awT42.kids (.slice A 2 c) ∧ BoxIn W exB Ak As ck cs) ∧ Below w.heap.size w W) := fun W hW => by
    have h := hbx.trans (hW.mono hbx.size)
    have hz := hcx.2
    exact ⟨hcx.1.1.below hW (by omega), hcx.1.2.below hW (by omega), ⟨HT1.out.below h h.size, HX1.out.below h⟩, HB1.out.trans (h.mono HB1.out.size)⟩
  have CP : Hid (∀ W g, Below X.heap.size X W → g = W.heap.size → Calls Tryd.prog 17 #[.agg #[.int .i64 1, .string ⟨#[]⟩, .int .i64 0, .slice A 2 c], .agg #[.int .i64 3, .string ⟨#[]⟩, .int .i64 0, .int .i64 20, .int .i64 5, .int .i64 2, .int .i64 0, .int .i64 0, .slice Ak 2 ck, .int .i64 1, .slice As 0 cs], .slice (some ⟨g, 0, none⟩) 1 1] (W.alloc (.cells #[.int .i64 1] 3)) (CarRes (W.alloc (.cells #[.int .i64 1] 3)) (⟨[1], 12, 5, -2⟩, 0))) := fun W g hW hg => by
    have h := bAl hW (.cells #[.int .i64 1] 3)
    obtain ⟨_, _, ⟨a1, a2⟩, a3⟩ := KX.out _ h
    have hp := cplace_any awT42 exB [1] A Ak As (some ⟨g, 0, none⟩) c ck cs 1 _ a1 (Nat.zero_le _) a2 (ints_lit W [1] (by simp [In64]) (by unfold Lt; simp) _ 1 rfl rfl (by simp [maxLen]) _ _ hg) (HTAB.out.below a3)
    rw [ex_place] at hp
    exact hp
  have CA : Hid (∀ W, Below X.heap.size X W → Calls Tryd.prog 11 #[.agg #[.int .i64 1, .string ⟨#[]⟩, .int .i64 0, .slice A 2 c], .agg #[.int .i64 3, .string ⟨#[]⟩, .int .i64 0, .int .i64 20, .int .i64 5, .int .i64 2, .int .i64 0, .int .i64 0, .slice Ak 2 ck, .int .i64 1, .slice As 0 cs]] W (CarsRes W ([⟨[0], 0, 5, -2⟩, ⟨[1], 12, 5, -2⟩, ⟨[2], 20, 5, -2⟩], 0))) := fun W hW => by
    obtain ⟨_, _, ⟨a1, a2⟩, a3⟩ := KX.out _ hW
    have hp := call_any awT42 exB A Ak As c ck cs W a1 (Nat.zero_le _) a2 (HTAB.out.below a3)
    rw [ex_all] at hp
    exact hp
  clear hX hbx hcx
  obtain ⟨hm, hn, hk, hb⟩ := KX.out X (Below.refl _ _)
  have m0 := hm 0 _ rfl
  have m1 := hm 1 _ rfl
  have m2 := hm 2 _ rfl
  have m3 := hm 3 _ rfl
  have n0 := hn 0 _ rfl
  have n1 := hn 1 _ rfl
  have n2 := hn 2 _ rfl
  have n3 := hn 3 _ rfl
  have n4 := hn 4 _ rfl
  have n5 := hn 5 _ rfl
  have n6 := hn 6 _ rfl
  have n7 := hn 7 _ rfl
  have n8 := hn 8 _ rfl
  have n9 := hn 9 _ rfl
  have n10 := hn 10 _ rfl
  simp only [Nat.zero_add] at m0 m1 m2 m3 n0 n1 n2 n3 n4 n5 n6 n7 n8 n9 n10
  clear hm hn hk hb
  go_wp2_with fail
  refine (CP.out X _ (Below.refl _ _) rfl).mono ?_
  rintro e w2 ⟨hb2, v2, rfl, hi2⟩
  obtain ⟨A2, c2, hv2⟩ := hi2.form
  subst hv2
  have HB2 := hid (bCl (bNew X (.cells #[.int .i64 1] 3)) hb2)
  clear hb2 hi2
  clear m0 m1 m2 m3 n0 n1 n2 n3 n4 n5 n6 n7 n8 n9 n10
  go_upto_region 3 with fail
  obtain ⟨X2, hX2⟩ : ∃ X, w2.alloc (.cells #[.slice A2 1 c2, .int .i64 12, .int .i64 5, .int .i64 (-2)] 42) = X := ⟨_, rfl⟩
  have hc2 : BoxL X2 w2.heap.size 0 [.slice A2 1 c2, .int .i64 12, .int .i64 5, .int .i64 (-2)] ∧ w2.heap.size < X2.heap.size := by rw [← hX2]; exact ⟨BoxL.new _ _ _ _ rfl _ rfl, by simp⟩
  have HBX2 : Hid (Below X.heap.size X X2) := by rw [← hX2]; exact bAl HB2.out _
  have HC2 := hid hc2
  rw [hX2]
  clear hX2 hc2
  obtain ⟨hm, hn, hk, hb⟩ := KX.out X2 HBX2.out
  have m0 := hm 0 _ rfl
  have m1 := hm 1 _ rfl
  have m2 := hm 2 _ rfl
  have m3 := hm 3 _ rfl
  have n0 := hn 0 _ rfl
  have n1 := hn 1 _ rfl
  have n2 := hn 2 _ rfl
  have n3 := hn 3 _ rfl
  have n4 := hn 4 _ rfl
  have n5 := hn 5 _ rfl
  have n6 := hn 6 _ rfl
  have n7 := hn 7 _ rfl
  have n8 := hn 8 _ rfl
  have n9 := hn 9 _ rfl
  have n10 := hn 10 _ rfl
  simp only [Nat.zero_add] at m0 m1 m2 m3 n0 n1 n2 n3 n4 n5 n6 n7 n8 n9 n10
  clear hm hn hk hb
  go_wp2_with fail
  refine (CA.out X2 HBX2.out).mono ?_
  rintro e w3 ⟨hb3, v3, rfl, hc3⟩
  obtain ⟨_, c3, rs, rfl, _, _, hrd, hls⟩ := hc3
  obtain ⟨g, o, Aa, ca, rfl, _, a0, a1, a2, a3, _, _⟩ := cars_at hrd hls (k := 0) (by simp)
  obtain ⟨g', o', Ab, cb, e', _, b0, b1, b2, b3, _, _⟩ := cars_at hrd hls (k := 2) (by simp)
  cases e'
  have hd := HC2.out.1.below hb3 HC2.out.2
  have d1 := hd 1 _ rfl
  have d2 := hd 2 _ rfl
  have d3 := hd 3 _ rfl
  simp only [Nat.zero_add, Nat.zero_mul, Nat.add_zero, List.getElem_cons_zero, List.getElem_cons_succ] at a1 b1 d1 d2 d3
  have HBW := hid ((KX.out w3 (bCl HBX2.out hb3)).2.2.2)
  clear hb3 hrd hls hd a0 a2 a3 b0 b2 b3
  clear m0 m1 m2 m3 n0 n1 n2 n3 n4 n5 n6 n7 n8 n9 n10
  go_wp2_with fail
  go_ret
  exact ⟨rfl, HBW.out⟩
end Go.Proofs.YtmahiejfniaahaaDoor
/- ref40.Same; law40: reference, few. Written by wip/genlaw40.py. -/
set_option linter.unusedVariables false
set_option linter.unusedSimpArgs false
set_option maxRecDepth 100000
namespace Go.Proofs.YtmahiejfniaahaaDoor
open Go.RowKit

def few40S (t : Tree) (b : Bx) : Bool := fewS t 40 && fewB b 2000
theorem few40_cnt {t : Tree} {b : Bx} (h : few40S t b = true) : countS t ≤ 40 ∧ cntB b ≤ 2000 := by
  unfold few40S at h
  rw [Bool.and_eq_true] at h
  have h1 := few_count (t := t) (m := 40) h.1
  have h2 := fewB_cnt (b := b) (m := 2000) (by omega) h.2
  exact ⟨by omega, by omega⟩
set_option maxHeartbeats 2000000 in
theorem few40_any (t : Tree) (b : Bx) (A Ak As : Option Addr) (cap ck cs : Nat) (w : World) (hv : SliceR treeE w (Lt w.heap.size) t.kids (.slice A t.kids.length cap)) (hb : BoxIn w b Ak As ck cs) :
    Calls Tryd.prog 6 #[nodeV t A cap, boxV b Ak As ck cs] w fun e w' => e = .returned (.bool (few40S t b)) ∧ Below w.heap.size w w' := by
  have C1 : Hid (∀ W, Below w.heap.size w W → Calls Tryd.prog 18 #[nodeV t A cap, .int .i64 40] W fun e w' => e = .returned (.bool (fewS t 40)) ∧ Below W.heap.size W w') := fun W hW => few_any t W _ 40 (hv.below hW hW.size) (by omega) (by omega)
  have C2 : Hid (∀ W, Below w.heap.size w W → Calls Tryd.prog 19 #[boxV b Ak As ck cs, .int .i64 2000] W fun e w' => e = .returned (.bool (fewB b 2000)) ∧ Below W.heap.size W w') := fun W hW => few28_any b Ak As ck cs W 2000 (hb.below hW).kids (by omega) (by omega)
  generalize hW0 : ((w.alloc (Obj.cells #[.int .i64 t.kind, .string t.text, .int .i64 t.cols, .slice A t.kids.length cap] 24)).alloc (Obj.cells (boxC b.f (.slice Ak b.kids.length ck) (.slice As b.f.src.length cs)) 28)) = W0
  have KB : Hid (∀ W, Below W0.heap.size W0 W → Laid2 W w.heap.size w.heap.size t b A Ak As cap ck cs ∧ Below w.heap.size w W) := fun W hW => by
    have hz0 : W0.heap.size = w.heap.size + 2 := by rw [← hW0]; simp
    have h1 := Laid2.new w t b A Ak As cap ck cs 24 28 hv hb
    have h3 : Below w.heap.size w W0 := by rw [← hW0]; exact bAl (bNew _ _) _
    rw [hW0] at h1
    exact ⟨h1.below hW (by omega) (by omega), h3.trans (hW.mono h3.size)⟩
  have HF : Hid (few40S t b = (fewS t 40 && fewB b 2000)) := rfl
  generalize few40S t b = R at *
  generalize fewS t 40 = b1 at *
  generalize fewB b 2000 = b2 at *
  clear hv hb
  cases b1 with
  | false =>
    have HG : Hid (R = false) := by show _ = _; rw [HF.out]; rfl
    obtain ⟨hl2, hbw⟩ := KB.out W0 (Below.refl _ _)
    have m0 := hl2.node 0 _ rfl
    have m1 := hl2.node 1 _ rfl
    have m2 := hl2.node 2 _ rfl
    have m3 := hl2.node 3 _ rfl
    have n0 := hl2.box 0 _ rfl
    have n1 := hl2.box 1 _ rfl
    have n2 := hl2.box 2 _ rfl
    have n3 := hl2.box 3 _ rfl
    have n4 := hl2.box 4 _ rfl
    have n5 := hl2.box 5 _ rfl
    have n6 := hl2.box 6 _ rfl
    have n7 := hl2.box 7 _ rfl
    have n8 := hl2.box 8 _ rfl
    have n9 := hl2.box 9 _ rfl
    have n10 := hl2.box 10 _ rfl
    simp only [Nat.zero_add] at m0 m1 m2 m3 n0 n1 n2 n3 n4 n5 n6 n7 n8 n9 n10
    have HBW_W0 := hid hbw
    clear hl2 hbw
    go_enter Tryd.func6, Tryd.ntmps6
    go_wp2_with fail
    clear hW0
    refine (C1.out _ HBW_W0.out).mono ?_
    rintro e w1 ⟨rfl, hb1⟩
    have HT1 := hid hb1
    clear hb1
    clear m0 m1 m2 m3 n0 n1 n2 n3 n4 n5 n6 n7 n8 n9 n10
    obtain ⟨hl2, hbw⟩ := KB.out w1 HT1.out
    have m0 := hl2.node 0 _ rfl
    have m1 := hl2.node 1 _ rfl
    have m2 := hl2.node 2 _ rfl
    have m3 := hl2.node 3 _ rfl
    have n0 := hl2.box 0 _ rfl
    have n1 := hl2.box 1 _ rfl
    have n2 := hl2.box 2 _ rfl
    have n3 := hl2.box 3 _ rfl
    have n4 := hl2.box 4 _ rfl
    have n5 := hl2.box 5 _ rfl
    have n6 := hl2.box 6 _ rfl
    have n7 := hl2.box 7 _ rfl
    have n8 := hl2.box 8 _ rfl
    have n9 := hl2.box 9 _ rfl
    have n10 := hl2.box 10 _ rfl
    simp only [Nat.zero_add] at m0 m1 m2 m3 n0 n1 n2 n3 n4 n5 n6 n7 n8 n9 n10
    have HBW_w1 := hid hbw
    clear hl2 hbw
    go_wp2_with fail
    go_ret
    exact ⟨by rw [HG.out]; rfl, HBW_w1.out⟩
  | true =>
    have HG : Hid (R = b2) := by show _ = _; rw [HF.out]; simp
    obtain ⟨hl2, hbw⟩ := KB.out W0 (Below.refl _ _)
    have m0 := hl2.node 0 _ rfl
    have m1 := hl2.node 1 _ rfl
    have m2 := hl2.node 2 _ rfl
    have m3 := hl2.node 3 _ rfl
    have n0 := hl2.box 0 _ rfl
    have n1 := hl2.box 1 _ rfl
    have n2 := hl2.box 2 _ rfl
    have n3 := hl2.box 3 _ rfl
    have n4 := hl2.box 4 _ rfl
    have n5 := hl2.box 5 _ rfl
    have n6 := hl2.box 6 _ rfl
    have n7 := hl2.box 7 _ rfl
    have n8 := hl2.box 8 _ rfl
    have n9 := hl2.box 9 _ rfl
    have n10 := hl2.box 10 _ rfl
    simp only [Nat.zero_add] at m0 m1 m2 m3 n0 n1 n2 n3 n4 n5 n6 n7 n8 n9 n10
    have HBW_W0 := hid hbw
    clear hl2 hbw
    go_enter Tryd.func6, Tryd.ntmps6
    go_wp2_with fail
    clear hW0
    refine (C1.out _ HBW_W0.out).mono ?_
    rintro e w1 ⟨rfl, hb1⟩
    have HT1 := hid hb1
    clear hb1
    clear m0 m1 m2 m3 n0 n1 n2 n3 n4 n5 n6 n7 n8 n9 n10
    obtain ⟨hl2, hbw⟩ := KB.out w1 HT1.out
    have m0 := hl2.node 0 _ rfl
    have m1 := hl2.node 1 _ rfl
    have m2 := hl2.node 2 _ rfl
    have m3 := hl2.node 3 _ rfl
    have n0 := hl2.box 0 _ rfl
    have n1 := hl2.box 1 _ rfl
    have n2 := hl2.box 2 _ rfl
    have n3 := hl2.box 3 _ rfl
    have n4 := hl2.box 4 _ rfl
    have n5 := hl2.box 5 _ rfl
    have n6 := hl2.box 6 _ rfl
    have n7 := hl2.box 7 _ rfl
    have n8 := hl2.box 8 _ rfl
    have n9 := hl2.box 9 _ rfl
    have n10 := hl2.box 10 _ rfl
    simp only [Nat.zero_add] at m0 m1 m2 m3 n0 n1 n2 n3 n4 n5 n6 n7 n8 n9 n10
    have HBW_w1 := hid hbw
    clear hl2 hbw
    go_wp2_with fail
    refine (C2.out _ HBW_w1.out).mono ?_
    rintro e w2 ⟨rfl, hb2⟩
    have HT2 := hid (bCl HBW_w1.out hb2)
    clear hb2
    go_wp2_with fail
    go_ret
    exact ⟨by rw [HG.out]; rfl, HT2.out⟩
end Go.Proofs.YtmahiejfniaahaaDoor
