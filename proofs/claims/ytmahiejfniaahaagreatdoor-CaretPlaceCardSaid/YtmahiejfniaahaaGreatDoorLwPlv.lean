/- CaretPlace. Written by wip/genlw40.py. -/
import Derived.Test.YtmahiejfniaahaaGreatDoorHK
import Derived.Test.YtmahiejfniaahaaGreatDoorRPlv
import Derived.Deep.RegionHeld3
set_option linter.unusedVariables false
set_option linter.unusedSimpArgs false
set_option maxRecDepth 100000
namespace Go.Proofs.YtmahiejfniaahaaGreatDoor
open Go.RowKit

set_option maxHeartbeats 8000000 in
theorem CaretPlace_walk (t : Tree) (b : Bx) (p : List Int) (A Ak As Ap : Option Addr) (cap ck cs cp : Nat) (w : World) (hv : SliceR treeE w (Lt w.heap.size) t.kids (.slice A t.kids.length cap)) (hok : NodeOk t) (hb : BoxIn w b Ak As ck cs) (hp : IntsR w (Lt w.heap.size) p (.slice Ap p.length cp)) (htab : TabOk w) :
    Calls Tryz.prog 3 #[nodeV t A cap, boxV b Ak As ck cs, .slice Ap p.length cp] w fun e w' => e = .returned (.bool true) ∧ Below w.heap.size w w' := by
  have HTAB := hid htab
  have CAW : Hid (∀ W, Below w.heap.size w W → Calls Tryz.prog 11 #[] W fun e w' => e = .returned (.bool true) ∧ Below W.heap.size W w') := fun W hW => awake40_any W (HTAB.out.below hW)
  have CFW : Hid (∀ W, Below w.heap.size w W → Calls Tryz.prog 12 #[nodeV t A cap, boxV b Ak As ck cs] W fun e w' => e = .returned (.bool (few40S t b)) ∧ Below W.heap.size W w') := fun W hW => few40_any t b A Ak As cap ck cs W (hv.below hW hW.size) (hb.below hW)
  generalize hW0 : ((w.alloc (Obj.cells #[.int .i64 t.kind, .string t.text, .int .i64 t.cols, .slice A t.kids.length cap] 24)).alloc (Obj.cells (boxC b.f (.slice Ak b.kids.length ck) (.slice As b.f.src.length cs)) 28)) = W0
  have KB : Hid (∀ W, Below W0.heap.size W0 W → Laid2 W w.heap.size w.heap.size t b A Ak As cap ck cs ∧ Below w.heap.size w W) := fun W hW => by
    have hz0 : W0.heap.size = w.heap.size + 2 := by rw [← hW0]; simp
    have h1 := Laid2.new w t b A Ak As cap ck cs 24 28 hv hb
    have h3 : Below w.heap.size w W0 := by rw [← hW0]; exact bAl (bNew _ _) _
    rw [hW0] at h1
    exact ⟨h1.below hW (by omega) (by omega), h3.trans (hW.mono h3.size)⟩
  have CP1 : Hid (few40S t b = true → ∀ W, Below w.heap.size w W → Calls Tryz.prog 13 #[nodeV t A cap, boxV b Ak As ck cs, .slice Ap p.length cp] W (CarRes W (placeR t b p))) := fun h W hW => cplace_any t b p A Ak As Ap cap ck cs cp W (hv.below hW hW.size) hok.2.2 (hb.below hW) (hp.below hW hW.size) (HTAB.out.below hW)
  have CP2 : Hid (few40S t b = true → ∀ W, Below w.heap.size w W → Calls Tryz.prog 14 #[nodeV t A cap, boxV b Ak As ck cs, .slice Ap p.length cp] W (CarRes W (placeR t b p))) := fun h W hW => by
    obtain ⟨h1, h2⟩ := few40_cnt h
    exact rplace_any t b p A Ak As Ap cap ck cs cp W (hv.below hW hW.size) hok.2.2 (by omega) (hb.below hW) (by omega) (hp.below hW hW.size)
  have hpl := hp.lens
  unfold maxLen at hpl
  generalize placeR t b p = r at *
  clear hv hok hb hp htab
  cases hf : few40S t b with
  | false =>
    rw [hf] at CFW
    clear hf CP1 CP2
    obtain ⟨hl2, hbw⟩ := KB.out W0 (Below.refl _ _)
    have m0 := hl2.node 0 _ rfl
    have m1 := hl2.node 1 _ rfl
    have m2 := hl2.node 2 _ rfl
    have m3 := hl2.node 3 _ rfl
    have n0 := hl2.box 0 _ rfl
    have n1 := hl2.box 1 _ rfl
    have n2 := hl2.box 2 _ rfl
    have n3 := hl2.box 3 _ rfl
    have n4 := hl2.box 4 _ rfl
    have n5 := hl2.box 5 _ rfl
    have n6 := hl2.box 6 _ rfl
    have n7 := hl2.box 7 _ rfl
    have n8 := hl2.box 8 _ rfl
    have n9 := hl2.box 9 _ rfl
    have n10 := hl2.box 10 _ rfl
    simp only [Nat.zero_add] at m0 m1 m2 m3 n0 n1 n2 n3 n4 n5 n6 n7 n8 n9 n10
    have HBW_W0 := hid hbw
    clear hl2 hbw
    go_enter Tryz.func3, Tryz.ntmps3
    go_wp2_with fail
    clear hW0
    refine (CAW.out _ HBW_W0.out).mono ?_
    rintro e w1 ⟨rfl, hb1⟩
    have HT1 := hid hb1
    clear hb1
    clear m0 m1 m2 m3 n0 n1 n2 n3 n4 n5 n6 n7 n8 n9 n10
    obtain ⟨hl2, hbw⟩ := KB.out w1 HT1.out
    have m0 := hl2.node 0 _ rfl
    have m1 := hl2.node 1 _ rfl
    have m2 := hl2.node 2 _ rfl
    have m3 := hl2.node 3 _ rfl
    have n0 := hl2.box 0 _ rfl
    have n1 := hl2.box 1 _ rfl
    have n2 := hl2.box 2 _ rfl
    have n3 := hl2.box 3 _ rfl
    have n4 := hl2.box 4 _ rfl
    have n5 := hl2.box 5 _ rfl
    have n6 := hl2.box 6 _ rfl
    have n7 := hl2.box 7 _ rfl
    have n8 := hl2.box 8 _ rfl
    have n9 := hl2.box 9 _ rfl
    have n10 := hl2.box 10 _ rfl
    simp only [Nat.zero_add] at m0 m1 m2 m3 n0 n1 n2 n3 n4 n5 n6 n7 n8 n9 n10
    have HBW_w1 := hid hbw
    clear hl2 hbw
    go_wp2_with fail
    refine (CFW.out _ HBW_w1.out).mono ?_
    rintro e w2 ⟨rfl, hb2⟩
    have HT2 := hid (bCl HT1.out hb2)
    clear hb2
    clear m0 m1 m2 m3 n0 n1 n2 n3 n4 n5 n6 n7 n8 n9 n10
    obtain ⟨hl2, hbw⟩ := KB.out w2 HT2.out
    have m0 := hl2.node 0 _ rfl
    have m1 := hl2.node 1 _ rfl
    have m2 := hl2.node 2 _ rfl
    have m3 := hl2.node 3 _ rfl
    have n0 := hl2.box 0 _ rfl
    have n1 := hl2.box 1 _ rfl
    have n2 := hl2.box 2 _ rfl
    have n3 := hl2.box 3 _ rfl
    have n4 := hl2.box 4 _ rfl
    have n5 := hl2.box 5 _ rfl
    have n6 := hl2.box 6 _ rfl
    have n7 := hl2.box 7 _ rfl
    have n8 := hl2.box 8 _ rfl
    have n9 := hl2.box 9 _ rfl
    have n10 := hl2.box 10 _ rfl
    simp only [Nat.zero_add] at m0 m1 m2 m3 n0 n1 n2 n3 n4 n5 n6 n7 n8 n9 n10
    have HBW_w2 := hid hbw
    clear hl2 hbw
    go_wp2_with fail
    go_ret
    exact ⟨rfl, HBW_w2.out⟩
  | true =>
    rw [hf] at CFW
    have C1 := hid (CP1.out hf)
    have C2 := hid (CP2.out hf)
    clear hf CP1 CP2
    by_cases hl : 60 < p.length
    · have i1 : decide ((60 : Int) < (p.length : Int)) = true := by rw [decide_eq_true_eq]; omega
      have i2 : decide (60 < p.length) = true := decide_eq_true hl
      clear C1 C2 hl
      obtain ⟨hl2, hbw⟩ := KB.out W0 (Below.refl _ _)
      have m0 := hl2.node 0 _ rfl
      have m1 := hl2.node 1 _ rfl
      have m2 := hl2.node 2 _ rfl
      have m3 := hl2.node 3 _ rfl
      have n0 := hl2.box 0 _ rfl
      have n1 := hl2.box 1 _ rfl
      have n2 := hl2.box 2 _ rfl
      have n3 := hl2.box 3 _ rfl
      have n4 := hl2.box 4 _ rfl
      have n5 := hl2.box 5 _ rfl
      have n6 := hl2.box 6 _ rfl
      have n7 := hl2.box 7 _ rfl
      have n8 := hl2.box 8 _ rfl
      have n9 := hl2.box 9 _ rfl
      have n10 := hl2.box 10 _ rfl
      simp only [Nat.zero_add] at m0 m1 m2 m3 n0 n1 n2 n3 n4 n5 n6 n7 n8 n9 n10
      have HBW_W0 := hid hbw
      clear hl2 hbw
      go_enter Tryz.func3, Tryz.ntmps3
      go_wp2_with fail
      clear hW0
      refine (CAW.out _ HBW_W0.out).mono ?_
      rintro e w1 ⟨rfl, hb1⟩
      have HT1 := hid hb1
      clear hb1
      clear m0 m1 m2 m3 n0 n1 n2 n3 n4 n5 n6 n7 n8 n9 n10
      obtain ⟨hl2, hbw⟩ := KB.out w1 HT1.out
      have m0 := hl2.node 0 _ rfl
      have m1 := hl2.node 1 _ rfl
      have m2 := hl2.node 2 _ rfl
      have m3 := hl2.node 3 _ rfl
      have n0 := hl2.box 0 _ rfl
      have n1 := hl2.box 1 _ rfl
      have n2 := hl2.box 2 _ rfl
      have n3 := hl2.box 3 _ rfl
      have n4 := hl2.box 4 _ rfl
      have n5 := hl2.box 5 _ rfl
      have n6 := hl2.box 6 _ rfl
      have n7 := hl2.box 7 _ rfl
      have n8 := hl2.box 8 _ rfl
      have n9 := hl2.box 9 _ rfl
      have n10 := hl2.box 10 _ rfl
      simp only [Nat.zero_add] at m0 m1 m2 m3 n0 n1 n2 n3 n4 n5 n6 n7 n8 n9 n10
      have HBW_w1 := hid hbw
      clear hl2 hbw
      go_wp2_with fail
      refine (CFW.out _ HBW_w1.out).mono ?_
      rintro e w2 ⟨rfl, hb2⟩
      have HT2 := hid (bCl HT1.out hb2)
      clear hb2
      clear m0 m1 m2 m3 n0 n1 n2 n3 n4 n5 n6 n7 n8 n9 n10
      obtain ⟨hl2, hbw⟩ := KB.out w2 HT2.out
      have m0 := hl2.node 0 _ rfl
      have m1 := hl2.node 1 _ rfl
      have m2 := hl2.node 2 _ rfl
      have m3 := hl2.node 3 _ rfl
      have n0 := hl2.box 0 _ rfl
      have n1 := hl2.box 1 _ rfl
      have n2 := hl2.box 2 _ rfl
      have n3 := hl2.box 3 _ rfl
      have n4 := hl2.box 4 _ rfl
      have n5 := hl2.box 5 _ rfl
      have n6 := hl2.box 6 _ rfl
      have n7 := hl2.box 7 _ rfl
      have n8 := hl2.box 8 _ rfl
      have n9 := hl2.box 9 _ rfl
      have n10 := hl2.box 10 _ rfl
      simp only [Nat.zero_add] at m0 m1 m2 m3 n0 n1 n2 n3 n4 n5 n6 n7 n8 n9 n10
      have HBW_w2 := hid hbw
      clear hl2 hbw
      go_wp2_with fail
      go_ret
      exact ⟨rfl, HBW_w2.out⟩
    · have i1 : decide ((60 : Int) < (p.length : Int)) = false := by rw [decide_eq_false_iff_not]; omega
      have i2 : decide (60 < p.length) = false := decide_eq_false hl
      obtain ⟨d, er⟩ := r
      obtain ⟨ps, x, top, bot⟩ := d
      clear hl
      obtain ⟨hl2, hbw⟩ := KB.out W0 (Below.refl _ _)
      have m0 := hl2.node 0 _ rfl
      have m1 := hl2.node 1 _ rfl
      have m2 := hl2.node 2 _ rfl
      have m3 := hl2.node 3 _ rfl
      have n0 := hl2.box 0 _ rfl
      have n1 := hl2.box 1 _ rfl
      have n2 := hl2.box 2 _ rfl
      have n3 := hl2.box 3 _ rfl
      have n4 := hl2.box 4 _ rfl
      have n5 := hl2.box 5 _ rfl
      have n6 := hl2.box 6 _ rfl
      have n7 := hl2.box 7 _ rfl
      have n8 := hl2.box 8 _ rfl
      have n9 := hl2.box 9 _ rfl
      have n10 := hl2.box 10 _ rfl
      simp only [Nat.zero_add] at m0 m1 m2 m3 n0 n1 n2 n3 n4 n5 n6 n7 n8 n9 n10
      have HBW_W0 := hid hbw
      clear hl2 hbw
      go_enter Tryz.func3, Tryz.ntmps3
      go_wp2_with fail
      clear hW0
      refine (CAW.out _ HBW_W0.out).mono ?_
      rintro e w1 ⟨rfl, hb1⟩
      have HT1 := hid hb1
      clear hb1
      clear m0 m1 m2 m3 n0 n1 n2 n3 n4 n5 n6 n7 n8 n9 n10
      obtain ⟨hl2, hbw⟩ := KB.out w1 HT1.out
      have m0 := hl2.node 0 _ rfl
      have m1 := hl2.node 1 _ rfl
      have m2 := hl2.node 2 _ rfl
      have m3 := hl2.node 3 _ rfl
      have n0 := hl2.box 0 _ rfl
      have n1 := hl2.box 1 _ rfl
      have n2 := hl2.box 2 _ rfl
      have n3 := hl2.box 3 _ rfl
      have n4 := hl2.box 4 _ rfl
      have n5 := hl2.box 5 _ rfl
      have n6 := hl2.box 6 _ rfl
      have n7 := hl2.box 7 _ rfl
      have n8 := hl2.box 8 _ rfl
      have n9 := hl2.box 9 _ rfl
      have n10 := hl2.box 10 _ rfl
      simp only [Nat.zero_add] at m0 m1 m2 m3 n0 n1 n2 n3 n4 n5 n6 n7 n8 n9 n10
      have HBW_w1 := hid hbw
      clear hl2 hbw
      go_wp2_with fail
      refine (CFW.out _ HBW_w1.out).mono ?_
      rintro e w2 ⟨rfl, hb2⟩
      have HT2 := hid (bCl HT1.out hb2)
      clear hb2
      clear m0 m1 m2 m3 n0 n1 n2 n3 n4 n5 n6 n7 n8 n9 n10
      obtain ⟨hl2, hbw⟩ := KB.out w2 HT2.out
      have m0 := hl2.node 0 _ rfl
      have m1 := hl2.node 1 _ rfl
      have m2 := hl2.node 2 _ rfl
      have m3 := hl2.node 3 _ rfl
      have n0 := hl2.box 0 _ rfl
      have n1 := hl2.box 1 _ rfl
      have n2 := hl2.box 2 _ rfl
      have n3 := hl2.box 3 _ rfl
      have n4 := hl2.box 4 _ rfl
      have n5 := hl2.box 5 _ rfl
      have n6 := hl2.box 6 _ rfl
      have n7 := hl2.box 7 _ rfl
      have n8 := hl2.box 8 _ rfl
      have n9 := hl2.box 9 _ rfl
      have n10 := hl2.box 10 _ rfl
      simp only [Nat.zero_add] at m0 m1 m2 m3 n0 n1 n2 n3 n4 n5 n6 n7 n8 n9 n10
      have HBW_w2 := hid hbw
      clear hl2 hbw
      go_wp2_with fail
      refine (C1.out _ HBW_w2.out).mono ?_
      rintro e w3 ⟨hb3, v3, rfl, hi3⟩
      obtain ⟨A3, c3, hv3⟩ := hi3.form
      subst hv3
      have HT3 := hid (bCl HT2.out hb3)
      have HI3 := hid hi3
      clear hb3 hi3
      clear m0 m1 m2 m3 n0 n1 n2 n3 n4 n5 n6 n7 n8 n9 n10
      go_upto_region 6 with fail
      obtain ⟨X3, hX3⟩ : ∃ X, w3.alloc (.cells #[.slice A3 ps.length c3, .int .i64 x, .int .i64 top, .int .i64 bot] 32) = X := ⟨_, rfl⟩
      have hc3 : (BoxL X3 w3.heap.size 0 [.slice A3 ps.length c3, .int .i64 x, .int .i64 top, .int .i64 bot] ∧ w3.heap.size < X3.heap.size) ∧ Below w3.heap.size w3 X3 := by rw [← hX3]; exact ⟨⟨BoxL.new _ _ _ _ rfl _ rfl, by simp⟩, bNew _ _⟩
      have HC3 := hid hc3
      have HTX := hid (bCl HT3.out hc3.2)
      rw [hX3]
      clear hX3 hc3
      obtain ⟨hl2, hbw⟩ := KB.out X3 HTX.out
      have m0 := hl2.node 0 _ rfl
      have m1 := hl2.node 1 _ rfl
      have m2 := hl2.node 2 _ rfl
      have m3 := hl2.node 3 _ rfl
      have n0 := hl2.box 0 _ rfl
      have n1 := hl2.box 1 _ rfl
      have n2 := hl2.box 2 _ rfl
      have n3 := hl2.box 3 _ rfl
      have n4 := hl2.box 4 _ rfl
      have n5 := hl2.box 5 _ rfl
      have n6 := hl2.box 6 _ rfl
      have n7 := hl2.box 7 _ rfl
      have n8 := hl2.box 8 _ rfl
      have n9 := hl2.box 9 _ rfl
      have n10 := hl2.box 10 _ rfl
      simp only [Nat.zero_add] at m0 m1 m2 m3 n0 n1 n2 n3 n4 n5 n6 n7 n8 n9 n10
      have HBW_X3 := hid hbw
      clear hl2 hbw
      go_wp2_with fail
      refine (C2.out _ HBW_X3.out).mono ?_
      rintro e w4 ⟨hb4, v4, rfl, hi4⟩
      obtain ⟨A4, c4, hv4⟩ := hi4.form
      subst hv4
      have HB4 := hid hb4
      have HI4 := hid hi4
      clear hb4 hi4
      clear m0 m1 m2 m3 n0 n1 n2 n3 n4 n5 n6 n7 n8 n9 n10
      go_upto_region 7 with fail
      obtain ⟨X4, hX4⟩ : ∃ X, w4.alloc (.cells #[.slice A4 ps.length c4, .int .i64 x, .int .i64 top, .int .i64 bot] 36) = X := ⟨_, rfl⟩
      have hc4 : (BoxL X4 w4.heap.size 0 [.slice A4 ps.length c4, .int .i64 x, .int .i64 top, .int .i64 bot] ∧ w4.heap.size < X4.heap.size) ∧ Below w4.heap.size w4 X4 := by rw [← hX4]; exact ⟨⟨BoxL.new _ _ _ _ rfl _ rfl, by simp⟩, bNew _ _⟩
      have HC4 := hid hc4
      have HX34 : Hid (Below X3.heap.size X3 X4) := bCl HB4.out hc4.2
      have K4 : Hid (∀ W, Below X4.heap.size X4 W → (BoxL W w3.heap.size 0 [.slice A3 ps.length c3, .int .i64 x, .int .i64 top, .int .i64 bot] ∧ BoxL W w4.heap.size 0 [.slice A4 ps.length c4, .int .i64 x, .int .i64 top, .int .i64 bot]) ∧ IntsR W (Lt W.heap.size) ps (.slice A3 ps.length c3) ∧ IntsR W (Lt W.heap.size) ps (.slice A4 ps.length c4) ∧ Below w.heap.size w W) := fun W hW => by
        have h34 := HX34.out
        have h3 := bCl h34 hW
        refine ⟨⟨(HC3.out.1.1.below h34 HC3.out.1.2).below hW (Nat.lt_of_lt_of_le HC3.out.1.2 h34.size), HC4.out.1.1.below hW HC4.out.1.2⟩, ?_, ?_, (KB.out W (bCl HTX.out h3)).2⟩
        · have hA := HI3.out.keep (S' := Lt w3.heap.size) (fun _ _ => rfl) (fun k hk => hk.2)
          have hs3 := HC3.out.2
          exact (hA.below hs3 hs3.size).below h3 h3.size
        · have hA := HI4.out.keep (S' := Lt w4.heap.size) (fun _ _ => rfl) (fun k hk => hk.2)
          have hs4 := HC4.out.2
          exact (hA.below hs4 hs4.size).below hW hW.size
      have CRF := hid (fun W => ref40_q A3 ps.length c3 x top bot W)
      have CSM : Hid (∀ W, Below X4.heap.size X4 W → Calls Tryz.prog 15 #[.agg #[.slice A3 ps.length c3, .int .i64 x, .int .i64 top, .int .i64 bot], .agg #[.slice A4 ps.length c4, .int .i64 x, .int .i64 top, .int .i64 bot]] W fun e w' => e = .returned (.bool true) ∧ Below W.heap.size W w') := fun W hW => by
        obtain ⟨_, h1, h2, _⟩ := K4.out W hW
        exact same40_any ps x top bot A3 A4 c3 c4 W (Lt W.heap.size) (Lt W.heap.size) (fun _ h => h) (fun _ h => h) h1 h2
      obtain ⟨⟨ha, hb⟩, _, _, _⟩ := K4.out X4 (Below.refl _ _)
      have a0 := ha 0 _ rfl
      have a1 := ha 1 _ rfl
      have a2 := ha 2 _ rfl
      have a3 := ha 3 _ rfl
      have b0 := hb 0 _ rfl
      have b1 := hb 1 _ rfl
      have b2 := hb 2 _ rfl
      have b3 := hb 3 _ rfl
      simp only [Nat.zero_add] at a0 a1 a2 a3 b0 b1 b2 b3
      rw [hX4]
      clear hX4 hc4 ha hb
      go_wp2_with fail
      go_region_held3 (fun w' => w'.cell? ⟨w3.heap.size, 0, none⟩ = some (.slice A3 ps.length c3) ∧ w'.cell? ⟨w3.heap.size, 1, none⟩ = some (.int .i64 x) ∧ w'.cell? ⟨w3.heap.size, 2, none⟩ = some (.int .i64 top) ∧ w'.cell? ⟨w3.heap.size, 3, none⟩ = some (.int .i64 bot) ∧ w'.cell? ⟨w4.heap.size, 0, none⟩ = some (.slice A4 ps.length c4) ∧ w'.cell? ⟨w4.heap.size, 1, none⟩ = some (.int .i64 x) ∧ w'.cell? ⟨w4.heap.size, 2, none⟩ = some (.int .i64 top) ∧ w'.cell? ⟨w4.heap.size, 3, none⟩ = some (.int .i64 bot)) (go_keep) (first
        | (go_at_call 16; (with_reducible refine (CRF.out _).mono ?_); rintro e w5 ⟨rfl, o1, o2, hw5⟩; have hb5 : Below X4.heap.size X4 w5 := hw5 ▸ bAl (bAl (Below.refl _ _).drew _) _; have HB5 := hid hb5; clear hw5 hb5; obtain ⟨⟨ha, hb⟩, _, _, _⟩ := K4.out w5 HB5.out; have a0 := ha 0 _ rfl; have a1 := ha 1 _ rfl; have a2 := ha 2 _ rfl; have a3 := ha 3 _ rfl; have b0 := hb 0 _ rfl; have b1 := hb 1 _ rfl; have b2 := hb 2 _ rfl; have b3 := hb 3 _ rfl; simp only [Nat.zero_add] at a0 a1 a2 a3 b0 b1 b2 b3; clear ha hb)
        | (go_at_call 15; (with_reducible refine (CSM.out w5 HB5.out).mono ?_); rintro e w6 ⟨rfl, hb6⟩; have HB6 := hid (bCl HB5.out hb6); clear hb6; obtain ⟨⟨ha, hb⟩, _, _, _⟩ := K4.out w6 HB6.out; have a0 := ha 0 _ rfl; have a1 := ha 1 _ rfl; have a2 := ha 2 _ rfl; have a3 := ha 3 _ rfl; have b0 := hb 0 _ rfl; have b1 := hb 1 _ rfl; have b2 := hb 2 _ rfl; have b3 := hb 3 _ rfl; simp only [Nat.zero_add] at a0 a1 a2 a3 b0 b1 b2 b3; clear ha hb)
        | fail)
      all_goals
        go_wp2_with fail
        go_ret
        exact ⟨rfl, (K4.out w6 HB6.out).2.2.2⟩
end Go.Proofs.YtmahiejfniaahaaGreatDoor
