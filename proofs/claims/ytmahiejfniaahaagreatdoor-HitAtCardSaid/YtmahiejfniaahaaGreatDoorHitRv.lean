/- ref41.At. Written by wip/genhit.py. -/
import Derived.Test.YtmahiejfniaahaaGreatDoorHN
import Derived.Test.YtmahiejfniaahaaGreatDoorHL
import Derived.Test.YtmahiejfniaahaaGreatDoorRAlv
import Derived.Laws.EntriesVeiled
import Derived.Deep.RegionHeld3
set_option linter.unusedVariables false
set_option linter.unusedSimpArgs false
set_option maxRecDepth 100000
namespace Go.Proofs.YtmahiejfniaahaaGreatDoor
open Go.RowKit

set_option maxHeartbeats 8000000 in
theorem rhat_any (t : Tree) (b : Bx) (x y : Int) (A Ak As : Option Addr) (cap ck cs : Nat) (w : World) (hv : SliceR treeE w (Lt w.heap.size) t.kids (.slice A t.kids.length cap)) (htx : t.text.size ≤ maxLen) (hct : countS t ≤ 900000) (hb : BoxIn w b Ak As ck cs) (hcb : cntB b ≤ 1000000) :
    Calls Tryz.prog 24 #[nodeV t A cap, boxV b Ak As ck cs, .int .i64 x, .int .i64 y] w (PosRes w (hitR t b x y)) := by
  have CV : Hid (∀ W, Below w.heap.size w W → Calls Tryz.prog 31 #[nodeV t A cap] W fun e w' => e = .returned (.bool (validS t)) ∧ Below W.heap.size W w') := fun W hW => valid_any t A cap W (hv.below hW hW.size) htx (by omega)
  have CW : Hid (∀ W, Below w.heap.size w W → Calls Tryz.prog 41 #[boxV b Ak As ck cs] W fun e w' => e = .returned (.bool (validB b)) ∧ Below W.heap.size W w') := fun W hW => bvalid28_any b Ak As ck cs W hb.ok.name (hb.below hW).src (hb.below hW).kids hcb
  have CA : Hid (∀ W, Below w.heap.size w W → Calls Tryz.prog 18 #[nodeV t A cap, boxV b Ak As ck cs] W (CarsRes W (carsR t b))) := fun W hW => rcall_any t b A Ak As cap ck cs W (hv.below hW hW.size) htx hct (hb.below hW) hcb
  have LX : Hid (∀ W, Calls Tryz.prog 52 #[.int .i64 x] W fun e w' => e = .returned (.bool (lenOk x)) ∧ W = w') := fun W => rLenValid_q x W
  have LY : Hid (∀ W, Calls Tryz.prog 52 #[.int .i64 y] W fun e w' => e = .returned (.bool (lenOk y)) ∧ W = w') := fun W => rLenValid_q y W
  generalize hW0 : ((w.alloc (Obj.cells #[.int .i64 t.kind, .string t.text, .int .i64 t.cols, .slice A t.kids.length cap] 24)).alloc (Obj.cells (boxC b.f (.slice Ak b.kids.length ck) (.slice As b.f.src.length cs)) 28)) = W0
  have KB : Hid (∀ W, Below W0.heap.size W0 W → Laid2 W w.heap.size w.heap.size t b A Ak As cap ck cs ∧ Below w.heap.size w W ∧ w.heap.size + 1 < W.heap.size) := fun W hW => by
    have hz0 : W0.heap.size = w.heap.size + 2 := by rw [← hW0]; simp
    have h1 := Laid2.new w t b A Ak As cap ck cs 24 28 hv hb
    have h3 : Below w.heap.size w W0 := by rw [← hW0]; exact bAl (bNew _ _) _
    rw [hW0] at h1
    exact ⟨h1.below hW (by omega) (by omega), h3.trans (hW.mono h3.size), by have := hW.size; omega⟩
  have HR1 : Hid ((validS t && validB b) = false → hitR t b x y = ([], 1)) := fun h => hitR_arg x y h
  have HR2_ : Hid ((validS t && validB b) = true → (lenOk x && lenOk y) = false → hitR t b x y = ([], 2)) := fun h h2 => hitR_rng h h2
  have HR3 : Hid ((validS t && validB b) = true → (lenOk x && lenOk y) = true → carsR t b = ([], 8) → hitR t b x y = ([], 8)) := fun h h2 h3 => hitR_none h h2 h3
  have HR4_ : Hid ((validS t && validB b) = true → (lenOk x && lenOk y) = true → ∀ l, carsR t b = (l, 0) → hitR t b x y = ((l.getD (bestK (hitLt x y) zeroC l l.length) zeroC).pos, 0)) := fun h h2 l h3 => hitR_some h h2 h3
  have HCC : Hid ((validS t && validB b) = true → carsR t b = ([], 8) ∨ ∃ l, carsR t b = (l, 0) ∧ carsL t b (allS [] t) = some l ∧ (∀ d ∈ l, d.Sm) ∧ 0 < l.length) := fun h => carsR_cases h
  generalize hitR t b x y = r at *
  clear hv htx hb hct hcb
  cases hv1 : validS t with
  | false =>
    rw [hv1] at CV HR1
    have HR : Hid (r = ([], 1)) := HR1.out rfl
    clear HR1 HR2_ HR3 HR4_ HCC hv1 LX LY CA CW
    obtain ⟨hl2, hbw, hgz⟩ := KB.out W0 (Below.refl _ _)
    have m0 := hl2.node 0 _ rfl
    have m1 := hl2.node 1 _ rfl
    have m2 := hl2.node 2 _ rfl
    have m3 := hl2.node 3 _ rfl
    have n0 := hl2.box 0 _ rfl
    have n1 := hl2.box 1 _ rfl
    have n2 := hl2.box 2 _ rfl
    have n3 := hl2.box 3 _ rfl
    have n4 := hl2.box 4 _ rfl
    have n5 := hl2.box 5 _ rfl
    have n6 := hl2.box 6 _ rfl
    have n7 := hl2.box 7 _ rfl
    have n8 := hl2.box 8 _ rfl
    have n9 := hl2.box 9 _ rfl
    have n10 := hl2.box 10 _ rfl
    simp only [Nat.zero_add] at m0 m1 m2 m3 n0 n1 n2 n3 n4 n5 n6 n7 n8 n9 n10
    have HBW_W0 := hid hbw
    clear hl2 hbw hgz
    go_enter Tryz.func24, Tryz.ntmps24
    go_wp2_with fail
    clear hW0
    refine (CV.out _ HBW_W0.out).mono ?_
    rintro e0 w1 ⟨rfl, hb1⟩
    have HT1 := hid hb1
    clear hb1
    clear m0 m1 m2 m3 n0 n1 n2 n3 n4 n5 n6 n7 n8 n9 n10
    obtain ⟨hl2, hbw, hgz⟩ := KB.out w1 HT1.out
    have m0 := hl2.node 0 _ rfl
    have m1 := hl2.node 1 _ rfl
    have m2 := hl2.node 2 _ rfl
    have m3 := hl2.node 3 _ rfl
    have n0 := hl2.box 0 _ rfl
    have n1 := hl2.box 1 _ rfl
    have n2 := hl2.box 2 _ rfl
    have n3 := hl2.box 3 _ rfl
    have n4 := hl2.box 4 _ rfl
    have n5 := hl2.box 5 _ rfl
    have n6 := hl2.box 6 _ rfl
    have n7 := hl2.box 7 _ rfl
    have n8 := hl2.box 8 _ rfl
    have n9 := hl2.box 9 _ rfl
    have n10 := hl2.box 10 _ rfl
    simp only [Nat.zero_add] at m0 m1 m2 m3 n0 n1 n2 n3 n4 n5 n6 n7 n8 n9 n10
    have HBW_w1 := hid hbw
    clear hl2 hbw hgz
    go_wp2_with fail
    go_ret2
    exact ⟨HBW_w1.out, .slice none 0 0, by rw [HR.out]; rfl, by rw [HR.out]; exact SliceR.nil_ 0 (Nat.zero_le _) none⟩
  | true =>
    cases hv2 : validB b with
    | false =>
      rw [hv1] at CV
      rw [hv1, hv2] at HR1
      rw [hv2] at CW
      have HR : Hid (r = ([], 1)) := HR1.out rfl
      clear HR1 HR2_ HR3 HR4_ HCC hv1 hv2 LX LY CA
      obtain ⟨hl2, hbw, hgz⟩ := KB.out W0 (Below.refl _ _)
      have m0 := hl2.node 0 _ rfl
      have m1 := hl2.node 1 _ rfl
      have m2 := hl2.node 2 _ rfl
      have m3 := hl2.node 3 _ rfl
      have n0 := hl2.box 0 _ rfl
      have n1 := hl2.box 1 _ rfl
      have n2 := hl2.box 2 _ rfl
      have n3 := hl2.box 3 _ rfl
      have n4 := hl2.box 4 _ rfl
      have n5 := hl2.box 5 _ rfl
      have n6 := hl2.box 6 _ rfl
      have n7 := hl2.box 7 _ rfl
      have n8 := hl2.box 8 _ rfl
      have n9 := hl2.box 9 _ rfl
      have n10 := hl2.box 10 _ rfl
      simp only [Nat.zero_add] at m0 m1 m2 m3 n0 n1 n2 n3 n4 n5 n6 n7 n8 n9 n10
      have HBW_W0 := hid hbw
      clear hl2 hbw hgz
      go_enter Tryz.func24, Tryz.ntmps24
      go_wp2_with fail
      clear hW0
      refine (CV.out _ HBW_W0.out).mono ?_
      rintro e0 w1 ⟨rfl, hb1⟩
      have HT1 := hid hb1
      clear hb1
      clear m0 m1 m2 m3 n0 n1 n2 n3 n4 n5 n6 n7 n8 n9 n10
      obtain ⟨hl2, hbw, hgz⟩ := KB.out w1 HT1.out
      have m0 := hl2.node 0 _ rfl
      have m1 := hl2.node 1 _ rfl
      have m2 := hl2.node 2 _ rfl
      have m3 := hl2.node 3 _ rfl
      have n0 := hl2.box 0 _ rfl
      have n1 := hl2.box 1 _ rfl
      have n2 := hl2.box 2 _ rfl
      have n3 := hl2.box 3 _ rfl
      have n4 := hl2.box 4 _ rfl
      have n5 := hl2.box 5 _ rfl
      have n6 := hl2.box 6 _ rfl
      have n7 := hl2.box 7 _ rfl
      have n8 := hl2.box 8 _ rfl
      have n9 := hl2.box 9 _ rfl
      have n10 := hl2.box 10 _ rfl
      simp only [Nat.zero_add] at m0 m1 m2 m3 n0 n1 n2 n3 n4 n5 n6 n7 n8 n9 n10
      have HBW_w1 := hid hbw
      clear hl2 hbw hgz
      go_wp2_with fail
      refine (CW.out _ HBW_w1.out).mono ?_
      rintro e0 w2 ⟨rfl, hb2⟩
      have HT2 := hid (bCl HT1.out hb2)
      clear hb2
      clear m0 m1 m2 m3 n0 n1 n2 n3 n4 n5 n6 n7 n8 n9 n10
      obtain ⟨hl2, hbw, hgz⟩ := KB.out w2 HT2.out
      have m0 := hl2.node 0 _ rfl
      have m1 := hl2.node 1 _ rfl
      have m2 := hl2.node 2 _ rfl
      have m3 := hl2.node 3 _ rfl
      have n0 := hl2.box 0 _ rfl
      have n1 := hl2.box 1 _ rfl
      have n2 := hl2.box 2 _ rfl
      have n3 := hl2.box 3 _ rfl
      have n4 := hl2.box 4 _ rfl
      have n5 := hl2.box 5 _ rfl
      have n6 := hl2.box 6 _ rfl
      have n7 := hl2.box 7 _ rfl
      have n8 := hl2.box 8 _ rfl
      have n9 := hl2.box 9 _ rfl
      have n10 := hl2.box 10 _ rfl
      simp only [Nat.zero_add] at m0 m1 m2 m3 n0 n1 n2 n3 n4 n5 n6 n7 n8 n9 n10
      have HBW_w2 := hid hbw
      clear hl2 hbw hgz
      go_wp2_with fail
      go_ret2
      exact ⟨HBW_w2.out, .slice none 0 0, by rw [HR.out]; rfl, by rw [HR.out]; exact SliceR.nil_ 0 (Nat.zero_le _) none⟩
    | true =>
      have hvv : (validS t && validB b) = true := two_true hv1 hv2
      have HRr := hid (HR2_.out hvv)
      have HRn := hid (HR3.out hvv)
      have HRs := hid (HR4_.out hvv)
      have HCV := hid (HCC.out hvv)
      rw [hv1] at CV
      rw [hv2] at CW
      clear HR1 HR2_ HR3 HR4_ HCC hvv hv1 hv2
      cases hlx : lenOk x with
      | false =>
        rw [hlx] at HRr LX
        have HR : Hid (r = ([], 2)) := HRr.out rfl
        clear HRr HRn HRs HCV hlx LY CA
        obtain ⟨hl2, hbw, hgz⟩ := KB.out W0 (Below.refl _ _)
        have m0 := hl2.node 0 _ rfl
        have m1 := hl2.node 1 _ rfl
        have m2 := hl2.node 2 _ rfl
        have m3 := hl2.node 3 _ rfl
        have n0 := hl2.box 0 _ rfl
        have n1 := hl2.box 1 _ rfl
        have n2 := hl2.box 2 _ rfl
        have n3 := hl2.box 3 _ rfl
        have n4 := hl2.box 4 _ rfl
        have n5 := hl2.box 5 _ rfl
        have n6 := hl2.box 6 _ rfl
        have n7 := hl2.box 7 _ rfl
        have n8 := hl2.box 8 _ rfl
        have n9 := hl2.box 9 _ rfl
        have n10 := hl2.box 10 _ rfl
        simp only [Nat.zero_add] at m0 m1 m2 m3 n0 n1 n2 n3 n4 n5 n6 n7 n8 n9 n10
        have HBW_W0 := hid hbw
        clear hl2 hbw hgz
        go_enter Tryz.func24, Tryz.ntmps24
        go_wp2_with fail
        clear hW0
        refine (CV.out _ HBW_W0.out).mono ?_
        rintro e0 w1 ⟨rfl, hb1⟩
        have HT1 := hid hb1
        clear hb1
        clear m0 m1 m2 m3 n0 n1 n2 n3 n4 n5 n6 n7 n8 n9 n10
        obtain ⟨hl2, hbw, hgz⟩ := KB.out w1 HT1.out
        have m0 := hl2.node 0 _ rfl
        have m1 := hl2.node 1 _ rfl
        have m2 := hl2.node 2 _ rfl
        have m3 := hl2.node 3 _ rfl
        have n0 := hl2.box 0 _ rfl
        have n1 := hl2.box 1 _ rfl
        have n2 := hl2.box 2 _ rfl
        have n3 := hl2.box 3 _ rfl
        have n4 := hl2.box 4 _ rfl
        have n5 := hl2.box 5 _ rfl
        have n6 := hl2.box 6 _ rfl
        have n7 := hl2.box 7 _ rfl
        have n8 := hl2.box 8 _ rfl
        have n9 := hl2.box 9 _ rfl
        have n10 := hl2.box 10 _ rfl
        simp only [Nat.zero_add] at m0 m1 m2 m3 n0 n1 n2 n3 n4 n5 n6 n7 n8 n9 n10
        have HBW_w1 := hid hbw
        clear hl2 hbw hgz
        go_wp2_with fail
        refine (CW.out _ HBW_w1.out).mono ?_
        rintro e0 w2 ⟨rfl, hb2⟩
        have HT2 := hid (bCl HT1.out hb2)
        clear hb2
        clear m0 m1 m2 m3 n0 n1 n2 n3 n4 n5 n6 n7 n8 n9 n10
        obtain ⟨hl2, hbw, hgz⟩ := KB.out w2 HT2.out
        have m0 := hl2.node 0 _ rfl
        have m1 := hl2.node 1 _ rfl
        have m2 := hl2.node 2 _ rfl
        have m3 := hl2.node 3 _ rfl
        have n0 := hl2.box 0 _ rfl
        have n1 := hl2.box 1 _ rfl
        have n2 := hl2.box 2 _ rfl
        have n3 := hl2.box 3 _ rfl
        have n4 := hl2.box 4 _ rfl
        have n5 := hl2.box 5 _ rfl
        have n6 := hl2.box 6 _ rfl
        have n7 := hl2.box 7 _ rfl
        have n8 := hl2.box 8 _ rfl
        have n9 := hl2.box 9 _ rfl
        have n10 := hl2.box 10 _ rfl
        simp only [Nat.zero_add] at m0 m1 m2 m3 n0 n1 n2 n3 n4 n5 n6 n7 n8 n9 n10
        have HBW_w2 := hid hbw
        clear hl2 hbw hgz
        go_wp2_with (go_at_call 52; first | (refine (LX.out _).mono ?_; rintro e0 w3 ⟨rfl, rfl⟩) | (refine (LY.out _).mono ?_; rintro e0 w3 ⟨rfl, rfl⟩))
        go_ret2
        exact ⟨HBW_w2.out, .slice none 0 0, by rw [HR.out]; rfl, by rw [HR.out]; exact SliceR.nil_ 0 (Nat.zero_le _) none⟩
      | true =>
        cases hly : lenOk y with
        | false =>
          rw [hlx, hly] at HRr
          rw [hlx] at LX
          rw [hly] at LY
          have HR : Hid (r = ([], 2)) := HRr.out rfl
          clear HRr HRn HRs HCV hlx hly CA
          obtain ⟨hl2, hbw, hgz⟩ := KB.out W0 (Below.refl _ _)
          have m0 := hl2.node 0 _ rfl
          have m1 := hl2.node 1 _ rfl
          have m2 := hl2.node 2 _ rfl
          have m3 := hl2.node 3 _ rfl
          have n0 := hl2.box 0 _ rfl
          have n1 := hl2.box 1 _ rfl
          have n2 := hl2.box 2 _ rfl
          have n3 := hl2.box 3 _ rfl
          have n4 := hl2.box 4 _ rfl
          have n5 := hl2.box 5 _ rfl
          have n6 := hl2.box 6 _ rfl
          have n7 := hl2.box 7 _ rfl
          have n8 := hl2.box 8 _ rfl
          have n9 := hl2.box 9 _ rfl
          have n10 := hl2.box 10 _ rfl
          simp only [Nat.zero_add] at m0 m1 m2 m3 n0 n1 n2 n3 n4 n5 n6 n7 n8 n9 n10
          have HBW_W0 := hid hbw
          clear hl2 hbw hgz
          go_enter Tryz.func24, Tryz.ntmps24
          go_wp2_with fail
          clear hW0
          refine (CV.out _ HBW_W0.out).mono ?_
          rintro e0 w1 ⟨rfl, hb1⟩
          have HT1 := hid hb1
          clear hb1
          clear m0 m1 m2 m3 n0 n1 n2 n3 n4 n5 n6 n7 n8 n9 n10
          obtain ⟨hl2, hbw, hgz⟩ := KB.out w1 HT1.out
          have m0 := hl2.node 0 _ rfl
          have m1 := hl2.node 1 _ rfl
          have m2 := hl2.node 2 _ rfl
          have m3 := hl2.node 3 _ rfl
          have n0 := hl2.box 0 _ rfl
          have n1 := hl2.box 1 _ rfl
          have n2 := hl2.box 2 _ rfl
          have n3 := hl2.box 3 _ rfl
          have n4 := hl2.box 4 _ rfl
          have n5 := hl2.box 5 _ rfl
          have n6 := hl2.box 6 _ rfl
          have n7 := hl2.box 7 _ rfl
          have n8 := hl2.box 8 _ rfl
          have n9 := hl2.box 9 _ rfl
          have n10 := hl2.box 10 _ rfl
          simp only [Nat.zero_add] at m0 m1 m2 m3 n0 n1 n2 n3 n4 n5 n6 n7 n8 n9 n10
          have HBW_w1 := hid hbw
          clear hl2 hbw hgz
          go_wp2_with fail
          refine (CW.out _ HBW_w1.out).mono ?_
          rintro e0 w2 ⟨rfl, hb2⟩
          have HT2 := hid (bCl HT1.out hb2)
          clear hb2
          clear m0 m1 m2 m3 n0 n1 n2 n3 n4 n5 n6 n7 n8 n9 n10
          obtain ⟨hl2, hbw, hgz⟩ := KB.out w2 HT2.out
          have m0 := hl2.node 0 _ rfl
          have m1 := hl2.node 1 _ rfl
          have m2 := hl2.node 2 _ rfl
          have m3 := hl2.node 3 _ rfl
          have n0 := hl2.box 0 _ rfl
          have n1 := hl2.box 1 _ rfl
          have n2 := hl2.box 2 _ rfl
          have n3 := hl2.box 3 _ rfl
          have n4 := hl2.box 4 _ rfl
          have n5 := hl2.box 5 _ rfl
          have n6 := hl2.box 6 _ rfl
          have n7 := hl2.box 7 _ rfl
          have n8 := hl2.box 8 _ rfl
          have n9 := hl2.box 9 _ rfl
          have n10 := hl2.box 10 _ rfl
          simp only [Nat.zero_add] at m0 m1 m2 m3 n0 n1 n2 n3 n4 n5 n6 n7 n8 n9 n10
          have HBW_w2 := hid hbw
          clear hl2 hbw hgz
          go_wp2_with (go_at_call 52; first | (refine (LX.out _).mono ?_; rintro e0 w3 ⟨rfl, rfl⟩) | (refine (LY.out _).mono ?_; rintro e0 w3 ⟨rfl, rfl⟩))
          go_ret2
          exact ⟨HBW_w2.out, .slice none 0 0, by rw [HR.out]; rfl, by rw [HR.out]; exact SliceR.nil_ 0 (Nat.zero_le _) none⟩
        | true =>
          have hxy : (lenOk x && lenOk y) = true := two_true hlx hly
          have HLX := hid hlx
          have HLY := hid hly
          rcases HCV.out with hc | ⟨l, hc, _, hsm, h0⟩
          · have HR : Hid (r = ([], 8)) := HRn.out hxy hc
            rw [hc] at CA
            rw [hlx] at LX
            rw [hly] at LY
            clear HRr HRn HRs HCV hlx hly hxy hc
            obtain ⟨hl2, hbw, hgz⟩ := KB.out W0 (Below.refl _ _)
            have m0 := hl2.node 0 _ rfl
            have m1 := hl2.node 1 _ rfl
            have m2 := hl2.node 2 _ rfl
            have m3 := hl2.node 3 _ rfl
            have n0 := hl2.box 0 _ rfl
            have n1 := hl2.box 1 _ rfl
            have n2 := hl2.box 2 _ rfl
            have n3 := hl2.box 3 _ rfl
            have n4 := hl2.box 4 _ rfl
            have n5 := hl2.box 5 _ rfl
            have n6 := hl2.box 6 _ rfl
            have n7 := hl2.box 7 _ rfl
            have n8 := hl2.box 8 _ rfl
            have n9 := hl2.box 9 _ rfl
            have n10 := hl2.box 10 _ rfl
            simp only [Nat.zero_add] at m0 m1 m2 m3 n0 n1 n2 n3 n4 n5 n6 n7 n8 n9 n10
            have HBW_W0 := hid hbw
            clear hl2 hbw hgz
            go_enter Tryz.func24, Tryz.ntmps24
            go_wp2_with fail
            clear hW0
            refine (CV.out _ HBW_W0.out).mono ?_
            rintro e0 w1 ⟨rfl, hb1⟩
            have HT1 := hid hb1
            clear hb1
            clear m0 m1 m2 m3 n0 n1 n2 n3 n4 n5 n6 n7 n8 n9 n10
            obtain ⟨hl2, hbw, hgz⟩ := KB.out w1 HT1.out
            have m0 := hl2.node 0 _ rfl
            have m1 := hl2.node 1 _ rfl
            have m2 := hl2.node 2 _ rfl
            have m3 := hl2.node 3 _ rfl
            have n0 := hl2.box 0 _ rfl
            have n1 := hl2.box 1 _ rfl
            have n2 := hl2.box 2 _ rfl
            have n3 := hl2.box 3 _ rfl
            have n4 := hl2.box 4 _ rfl
            have n5 := hl2.box 5 _ rfl
            have n6 := hl2.box 6 _ rfl
            have n7 := hl2.box 7 _ rfl
            have n8 := hl2.box 8 _ rfl
            have n9 := hl2.box 9 _ rfl
            have n10 := hl2.box 10 _ rfl
            simp only [Nat.zero_add] at m0 m1 m2 m3 n0 n1 n2 n3 n4 n5 n6 n7 n8 n9 n10
            have HBW_w1 := hid hbw
            clear hl2 hbw hgz
            go_wp2_with fail
            refine (CW.out _ HBW_w1.out).mono ?_
            rintro e0 w2 ⟨rfl, hb2⟩
            have HT2 := hid (bCl HT1.out hb2)
            clear hb2
            clear m0 m1 m2 m3 n0 n1 n2 n3 n4 n5 n6 n7 n8 n9 n10
            obtain ⟨hl2, hbw, hgz⟩ := KB.out w2 HT2.out
            have m0 := hl2.node 0 _ rfl
            have m1 := hl2.node 1 _ rfl
            have m2 := hl2.node 2 _ rfl
            have m3 := hl2.node 3 _ rfl
            have n0 := hl2.box 0 _ rfl
            have n1 := hl2.box 1 _ rfl
            have n2 := hl2.box 2 _ rfl
            have n3 := hl2.box 3 _ rfl
            have n4 := hl2.box 4 _ rfl
            have n5 := hl2.box 5 _ rfl
            have n6 := hl2.box 6 _ rfl
            have n7 := hl2.box 7 _ rfl
            have n8 := hl2.box 8 _ rfl
            have n9 := hl2.box 9 _ rfl
            have n10 := hl2.box 10 _ rfl
            simp only [Nat.zero_add] at m0 m1 m2 m3 n0 n1 n2 n3 n4 n5 n6 n7 n8 n9 n10
            have HBW_w2 := hid hbw
            clear hl2 hbw hgz
            go_wp2_with (go_at_call 52; first | (refine (LX.out _).mono ?_; rintro e0 w3 ⟨rfl, rfl⟩) | (refine (LY.out _).mono ?_; rintro e0 w3 ⟨rfl, rfl⟩))
            refine (CA.out _ HBW_w2.out).mono ?_
            rintro e0 w4 ⟨hb4, v4, rfl, hr4⟩
            obtain ⟨A4, c4, rfl⟩ := hr4.form
            have HT4 := hid (bCl HT2.out hb4)
            have HR4 := hid hr4
            clear hb4 hr4
            clear m0 m1 m2 m3 n0 n1 n2 n3 n4 n5 n6 n7 n8 n9 n10
            obtain ⟨hl2, hbw, hgz⟩ := KB.out w4 HT4.out
            have m0 := hl2.node 0 _ rfl
            have m1 := hl2.node 1 _ rfl
            have m2 := hl2.node 2 _ rfl
            have m3 := hl2.node 3 _ rfl
            have n0 := hl2.box 0 _ rfl
            have n1 := hl2.box 1 _ rfl
            have n2 := hl2.box 2 _ rfl
            have n3 := hl2.box 3 _ rfl
            have n4 := hl2.box 4 _ rfl
            have n5 := hl2.box 5 _ rfl
            have n6 := hl2.box 6 _ rfl
            have n7 := hl2.box 7 _ rfl
            have n8 := hl2.box 8 _ rfl
            have n9 := hl2.box 9 _ rfl
            have n10 := hl2.box 10 _ rfl
            simp only [Nat.zero_add] at m0 m1 m2 m3 n0 n1 n2 n3 n4 n5 n6 n7 n8 n9 n10
            have HBW_w4 := hid hbw
            clear hl2 hbw hgz
            go_wp2_with fail
            go_ret2
            exact ⟨HBW_w4.out, .slice none 0 0, by rw [HR.out]; rfl, by rw [HR.out]; exact SliceR.nil_ 0 (Nat.zero_le _) none⟩
          · have HR := hid (HRs.out hxy l hc)
            rw [hc] at CA
            rw [hlx] at LX
            rw [hly] at LY
            have HSM := hid hsm
            have HH0 := hid h0
            clear HRr HRn HRs HCV hlx hly hxy hc hsm h0
            obtain ⟨hl2, hbw, hgz⟩ := KB.out W0 (Below.refl _ _)
            have m0 := hl2.node 0 _ rfl
            have m1 := hl2.node 1 _ rfl
            have m2 := hl2.node 2 _ rfl
            have m3 := hl2.node 3 _ rfl
            have n0 := hl2.box 0 _ rfl
            have n1 := hl2.box 1 _ rfl
            have n2 := hl2.box 2 _ rfl
            have n3 := hl2.box 3 _ rfl
            have n4 := hl2.box 4 _ rfl
            have n5 := hl2.box 5 _ rfl
            have n6 := hl2.box 6 _ rfl
            have n7 := hl2.box 7 _ rfl
            have n8 := hl2.box 8 _ rfl
            have n9 := hl2.box 9 _ rfl
            have n10 := hl2.box 10 _ rfl
            simp only [Nat.zero_add] at m0 m1 m2 m3 n0 n1 n2 n3 n4 n5 n6 n7 n8 n9 n10
            have HBW_W0 := hid hbw
            clear hl2 hbw hgz
            go_enter Tryz.func24, Tryz.ntmps24
            go_wp2_with fail
            clear hW0
            refine (CV.out _ HBW_W0.out).mono ?_
            rintro e0 w1 ⟨rfl, hb1⟩
            have HT1 := hid hb1
            clear hb1
            clear m0 m1 m2 m3 n0 n1 n2 n3 n4 n5 n6 n7 n8 n9 n10
            obtain ⟨hl2, hbw, hgz⟩ := KB.out w1 HT1.out
            have m0 := hl2.node 0 _ rfl
            have m1 := hl2.node 1 _ rfl
            have m2 := hl2.node 2 _ rfl
            have m3 := hl2.node 3 _ rfl
            have n0 := hl2.box 0 _ rfl
            have n1 := hl2.box 1 _ rfl
            have n2 := hl2.box 2 _ rfl
            have n3 := hl2.box 3 _ rfl
            have n4 := hl2.box 4 _ rfl
            have n5 := hl2.box 5 _ rfl
            have n6 := hl2.box 6 _ rfl
            have n7 := hl2.box 7 _ rfl
            have n8 := hl2.box 8 _ rfl
            have n9 := hl2.box 9 _ rfl
            have n10 := hl2.box 10 _ rfl
            simp only [Nat.zero_add] at m0 m1 m2 m3 n0 n1 n2 n3 n4 n5 n6 n7 n8 n9 n10
            have HBW_w1 := hid hbw
            clear hl2 hbw hgz
            go_wp2_with fail
            refine (CW.out _ HBW_w1.out).mono ?_
            rintro e0 w2 ⟨rfl, hb2⟩
            have HT2 := hid (bCl HT1.out hb2)
            clear hb2
            clear m0 m1 m2 m3 n0 n1 n2 n3 n4 n5 n6 n7 n8 n9 n10
            obtain ⟨hl2, hbw, hgz⟩ := KB.out w2 HT2.out
            have m0 := hl2.node 0 _ rfl
            have m1 := hl2.node 1 _ rfl
            have m2 := hl2.node 2 _ rfl
            have m3 := hl2.node 3 _ rfl
            have n0 := hl2.box 0 _ rfl
            have n1 := hl2.box 1 _ rfl
            have n2 := hl2.box 2 _ rfl
            have n3 := hl2.box 3 _ rfl
            have n4 := hl2.box 4 _ rfl
            have n5 := hl2.box 5 _ rfl
            have n6 := hl2.box 6 _ rfl
            have n7 := hl2.box 7 _ rfl
            have n8 := hl2.box 8 _ rfl
            have n9 := hl2.box 9 _ rfl
            have n10 := hl2.box 10 _ rfl
            simp only [Nat.zero_add] at m0 m1 m2 m3 n0 n1 n2 n3 n4 n5 n6 n7 n8 n9 n10
            have HBW_w2 := hid hbw
            clear hl2 hbw hgz
            go_wp2_with (go_at_call 52; first | (refine (LX.out _).mono ?_; rintro e0 w3 ⟨rfl, rfl⟩) | (refine (LY.out _).mono ?_; rintro e0 w3 ⟨rfl, rfl⟩))
            refine (CA.out _ HBW_w2.out).mono ?_
            rintro e0 w4 ⟨hb4, v4, rfl, hr4⟩
            obtain ⟨A4, c4, rfl⟩ := hr4.form
            have HT4 := hid (bCl HT2.out hb4)
            have HR4 := hid hr4
            clear hb4 hr4
            clear m0 m1 m2 m3 n0 n1 n2 n3 n4 n5 n6 n7 n8 n9 n10
            obtain ⟨hl2, hbw, hgz⟩ := KB.out w4 HT4.out
            have m0 := hl2.node 0 _ rfl
            have m1 := hl2.node 1 _ rfl
            have m2 := hl2.node 2 _ rfl
            have m3 := hl2.node 3 _ rfl
            have n0 := hl2.box 0 _ rfl
            have n1 := hl2.box 1 _ rfl
            have n2 := hl2.box 2 _ rfl
            have n3 := hl2.box 3 _ rfl
            have n4 := hl2.box 4 _ rfl
            have n5 := hl2.box 5 _ rfl
            have n6 := hl2.box 6 _ rfl
            have n7 := hl2.box 7 _ rfl
            have n8 := hl2.box 8 _ rfl
            have n9 := hl2.box 9 _ rfl
            have n10 := hl2.box 10 _ rfl
            simp only [Nat.zero_add] at m0 m1 m2 m3 n0 n1 n2 n3 n4 n5 n6 n7 n8 n9 n10
            have HBW_w4 := hid hbw
            clear hl2 hbw hgz
            have HG0 : Hid (w.heap.size ≤ w2.heap.size) := (KB.out w2 HT2.out).2.1.size
            have hlen := HR4.out.lens
            unfold maxLen at hlen
            clear m0 m1 m2 m3 n0 n1 n2 n3 n4 n5 n6 n7 n8 n9 n10
            go_wp2_with fail
            go_loopw [12, 13] (fun bi i wr => Below w4.heap.size w4 wr ∧ ∃ k : Nat, 1 ≤ k ∧ k ≤ l.length ∧ i = .int .i64 k ∧ bi = .int .i64 (bestK (hitLt x y) zeroC l k : Nat)) (fun _ i _ => l.length - (intOf i).toNat)
            case atStart => exact ⟨Below.refl _ _, 1, Nat.le_refl _, HH0.out, rfl, by rw [bestK_one]; rfl⟩
            case round =>
              obtain ⟨hbr, k, hk1, hk, rfl, rfl⟩ := hrel
              have HBR := hid hbr
              have hj : bestK (hitLt x y) zeroC l k < l.length := by rcases bestK_lt (hitLt x y) zeroC l k with h | h <;> omega
              obtain ⟨_, _, rs, hq, _, _, hrd, hls⟩ := HR4.out
              cases hq
              obtain ⟨g, o, Am, cm, hA, hg', m0, m1, m2, m3, _, him⟩ := carsAt hrd hls hj
              subst hA
              have hg : g < w4.heap.size := hg'.2
              rcases Nat.lt_or_ge k l.length with hlt | hge
              · obtain ⟨ga, oa, Ak_, ck_, hA, hga, a0, a1, a2, a3, _, hia⟩ := carsAt hrd hls hlt
                cases hA
                have HN : Hid (bestK (hitLt x y) zeroC l (k + 1) = if hitLt x y l[k] l[bestK (hitLt x y) zeroC l k] = true then k else bestK (hitLt x y) zeroC l k) := by
                  show _ = _
                  rw [bestK, getD_at l zeroC hlt, getD_at l zeroC hj]
                have hsk := HSM.out _ (List.getElem_mem hlt)
                have hsj := HSM.out _ (List.getElem_mem hj)
                have i5 : decide ((k : Int) < (l.length : Int)) = true := by rw [decide_eq_true_eq]; omega
                have i6 : (0 : Int) ≤ (k : Int) := by omega
                have i7 : (k : Int) < (l.length : Int) := by omega
                obtain ⟨dk, hdk⟩ : ∃ d, l[k] = d := ⟨_, rfl⟩
                obtain ⟨dm, hdm⟩ : ∃ d, l[bestK (hitLt x y) zeroC l k] = d := ⟨_, rfl⟩
                simp only [hdk, hdm] at a0 a1 a2 a3 m0 m1 m2 m3 HN hsk hsj
                clear hdk hdm him hia hrd hls
                generalize bestK (hitLt x y) zeroC l k = j at *
                have i8 : (0 : Int) ≤ (j : Int) := by omega
                have i9 : (j : Int) < (l.length : Int) := by omega
                have HGR : Hid (g < wr.heap.size) := Nat.lt_of_lt_of_le hg hbr.size
                have K0 : Hid (∀ w', Below w4.heap.size w4 w' → w'.cell? ⟨g, o + k * 4, none⟩ = some (.slice Ak_ dk.pos.length ck_) ∧ w'.cell? ⟨g, o + k * 4 + 1, none⟩ = some (.int .i64 dk.x) ∧ w'.cell? ⟨g, o + k * 4 + 2, none⟩ = some (.int .i64 dk.top) ∧ w'.cell? ⟨g, o + k * 4 + 3, none⟩ = some (.int .i64 dk.bottom) ∧ w'.cell? ⟨g, o + j * 4, none⟩ = some (.slice Am dm.pos.length cm) ∧ w'.cell? ⟨g, o + j * 4 + 1, none⟩ = some (.int .i64 dm.x) ∧ w'.cell? ⟨g, o + j * 4 + 2, none⟩ = some (.int .i64 dm.top) ∧ w'.cell? ⟨g, o + j * 4 + 3, none⟩ = some (.int .i64 dm.bottom)) := fun W hW => ⟨(hW.cell (p := ⟨g, _, none⟩) hg).trans a0, (hW.cell (p := ⟨g, _, none⟩) hg).trans a1, (hW.cell (p := ⟨g, _, none⟩) hg).trans a2, (hW.cell (p := ⟨g, _, none⟩) hg).trans a3, (hW.cell (p := ⟨g, _, none⟩) hg).trans m0, (hW.cell (p := ⟨g, _, none⟩) hg).trans m1, (hW.cell (p := ⟨g, _, none⟩) hg).trans m2, (hW.cell (p := ⟨g, _, none⟩) hg).trans m3⟩
                have KK : Hid (∀ w', Below wr.heap.size wr w' → w'.cell? ⟨g, o + k * 4, none⟩ = some (.slice Ak_ dk.pos.length ck_) ∧ w'.cell? ⟨g, o + k * 4 + 1, none⟩ = some (.int .i64 dk.x) ∧ w'.cell? ⟨g, o + k * 4 + 2, none⟩ = some (.int .i64 dk.top) ∧ w'.cell? ⟨g, o + k * 4 + 3, none⟩ = some (.int .i64 dk.bottom) ∧ w'.cell? ⟨g, o + j * 4, none⟩ = some (.slice Am dm.pos.length cm) ∧ w'.cell? ⟨g, o + j * 4 + 1, none⟩ = some (.int .i64 dm.x) ∧ w'.cell? ⟨g, o + j * 4 + 2, none⟩ = some (.int .i64 dm.top) ∧ w'.cell? ⟨g, o + j * 4 + 3, none⟩ = some (.int .i64 dm.bottom)) := fun W hW => K0.out W (bCl HBR.out hW)
                have CD : Hid (∀ W, Calls Tryz.prog 53 #[.agg #[.slice Ak_ dk.pos.length ck_, .int .i64 dk.x, .int .i64 dk.top, .int .i64 dk.bottom], .int .i64 x, .int .i64 y] W fun r w' => r = .returned (.int .i64 (distS dk x y)) ∧ Below W.heap.size W w') := fun W => rdist_any dk x y Ak_ _ ck_ W hsk HLX.out HLY.out
                have CM : Hid (∀ W, Calls Tryz.prog 53 #[.agg #[.slice Am dm.pos.length cm, .int .i64 dm.x, .int .i64 dm.top, .int .i64 dm.bottom], .int .i64 x, .int .i64 y] W fun r w' => r = .returned (.int .i64 (distS dm x y)) ∧ Below W.heap.size W w') := fun W => rdist_any dm x y Am _ cm W hsj HLX.out HLY.out
                obtain ⟨s1, s2, s3⟩ := hsk
                obtain ⟨t1, t2, t3⟩ := hsj
                unfold Sm at s1 s2 s3 t1 t2 t3
                have v1 : IntKind.i64.wrap (dk.top - dk.bottom) = dk.top - dk.bottom := IntWalk.i64_in _ (by omega)
                have v2 : IntKind.i64.wrap (dm.top - dm.bottom) = dm.top - dm.bottom := IntWalk.i64_in _ (by omega)
                have HLT : Hid (hitLt x y dk dm = (decide (distS dk x y < distS dm x y) || (decide (distS dk x y = distS dm x y) && decide (dk.top - dk.bottom < dm.top - dm.bottom)))) := rfl
                clear a0 a1 a2 a3 m0 m1 m2 m3 s1 s2 s3 t1 t2 t3 hbr hg hg' hga
                obtain ⟨a0, a1, a2, a3, m0, m1, m2, m3⟩ := KK.out wr (Below.refl _ _)
                generalize distS dk x y = ud at *
                generalize distS dm x y = ue at *
                generalize hitLt x y dk dm = lt at *
                by_cases h1 : ud < ue
                · have u1 : decide (ud < ue) = true := decide_eq_true h1
                  have HL : Hid (lt = true) := by show _ = _; rw [HLT.out, u1]; rfl
                  rw [HL.out] at HN
                  clear HLT HL h1
                  go_wp2_with fail
                  go_region_held3 (fun w' => w'.cell? ⟨g, o + k * 4, none⟩ = some (.slice Ak_ dk.pos.length ck_) ∧ w'.cell? ⟨g, o + k * 4 + 1, none⟩ = some (.int .i64 dk.x) ∧ w'.cell? ⟨g, o + k * 4 + 2, none⟩ = some (.int .i64 dk.top) ∧ w'.cell? ⟨g, o + k * 4 + 3, none⟩ = some (.int .i64 dk.bottom) ∧ w'.cell? ⟨g, o + j * 4, none⟩ = some (.slice Am dm.pos.length cm) ∧ w'.cell? ⟨g, o + j * 4 + 1, none⟩ = some (.int .i64 dm.x) ∧ w'.cell? ⟨g, o + j * 4 + 2, none⟩ = some (.int .i64 dm.top) ∧ w'.cell? ⟨g, o + j * 4 + 3, none⟩ = some (.int .i64 dm.bottom)) (go_keep) (first
                    | (go_at_call 53; (with_reducible refine (CD.out _).mono ?_); rintro r0 wd ⟨rfl, hb0⟩; have HEB : Hid (Below wr.heap.size wr wd) := hid (bCl (bCl HBm.out (show Below wm.heap.size wm _ by (repeat (first | with_reducible exact Below.refl _ _ | with_reducible refine Below.drew ?_ | with_reducible refine bAl ?_ _ | fail)))) hb0); clear hb0; obtain ⟨a0, a1, a2, a3, m0, m1, m2, m3⟩ := KK.out _ HEB.out)
                    | (go_at_call 53; (with_reducible refine (CM.out _).mono ?_); rintro r0 wm ⟨rfl, hb0⟩; have HEB : Hid (Below wr.heap.size wr wm) := hid (bCl (bCl HBd.out (show Below wd.heap.size wd _ by (repeat (first | with_reducible exact Below.refl _ _ | with_reducible refine Below.drew ?_ | with_reducible refine bAl ?_ _ | fail)))) hb0); clear hb0; obtain ⟨a0, a1, a2, a3, m0, m1, m2, m3⟩ := KK.out _ HEB.out)
                    | (go_at_call 53; (with_reducible refine (CD.out _).mono ?_); rintro r0 wd ⟨rfl, hb0⟩; have HBd : Hid (Below wr.heap.size wr wd) := hid (bCl (show Below wr.heap.size wr _ by (repeat (first | with_reducible exact Below.refl _ _ | with_reducible refine Below.drew ?_ | with_reducible refine bAl ?_ _ | fail))) hb0); clear hb0; obtain ⟨a0, a1, a2, a3, m0, m1, m2, m3⟩ := KK.out _ HBd.out)
                    | (go_at_call 53; (with_reducible refine (CM.out _).mono ?_); rintro r0 wm ⟨rfl, hb0⟩; have HBm : Hid (Below wr.heap.size wr wm) := hid (bCl (show Below wr.heap.size wr _ by (repeat (first | with_reducible exact Below.refl _ _ | with_reducible refine Below.drew ?_ | with_reducible refine bAl ?_ _ | fail))) hb0); clear hb0; obtain ⟨a0, a1, a2, a3, m0, m1, m2, m3⟩ := KK.out _ HBm.out)
                    | fail)
                  all_goals
                    go_upto_region 13 with fail
                    go_quiet (fail)
                    go_wp2_with fail
                    go_roundw
                    case rel => exact ⟨by first | exact bCl HBR.out HEB.out | exact bDn (bCl HBR.out HEB.out) _ | exact (bCl HBR.out HEB.out).drew | fail, k + 1, by omega, by omega, by go_num, by rw [HN.out]; simp⟩
                    case measure => simp [intOf]; omega
                · have u1 : decide (ud < ue) = false := decide_eq_false h1
                  by_cases h2 : ud = ue
                  · have u2 : (ud == ue) = true := by simp [h2]
                    have u2' : decide (ud = ue) = true := decide_eq_true h2
                    by_cases h3 : dk.top - dk.bottom < dm.top - dm.bottom
                    · have u3 : decide (dk.top - dk.bottom < dm.top - dm.bottom) = true := decide_eq_true h3
                      have HL : Hid (lt = true) := by show _ = _; rw [HLT.out, u1, u2', u3]; rfl
                      rw [HL.out] at HN
                      clear HLT HL h1 h2 h3
                      go_wp2_with fail
                      go_region_held3 (fun w' => w'.cell? ⟨g, o + k * 4, none⟩ = some (.slice Ak_ dk.pos.length ck_) ∧ w'.cell? ⟨g, o + k * 4 + 1, none⟩ = some (.int .i64 dk.x) ∧ w'.cell? ⟨g, o + k * 4 + 2, none⟩ = some (.int .i64 dk.top) ∧ w'.cell? ⟨g, o + k * 4 + 3, none⟩ = some (.int .i64 dk.bottom) ∧ w'.cell? ⟨g, o + j * 4, none⟩ = some (.slice Am dm.pos.length cm) ∧ w'.cell? ⟨g, o + j * 4 + 1, none⟩ = some (.int .i64 dm.x) ∧ w'.cell? ⟨g, o + j * 4 + 2, none⟩ = some (.int .i64 dm.top) ∧ w'.cell? ⟨g, o + j * 4 + 3, none⟩ = some (.int .i64 dm.bottom)) (go_keep) (first
                        | (go_at_call 53; (with_reducible refine (CD.out _).mono ?_); rintro r0 wd ⟨rfl, hb0⟩; have HEB : Hid (Below wr.heap.size wr wd) := hid (bCl (bCl HBm.out (show Below wm.heap.size wm _ by (repeat (first | with_reducible exact Below.refl _ _ | with_reducible refine Below.drew ?_ | with_reducible refine bAl ?_ _ | fail)))) hb0); clear hb0; obtain ⟨a0, a1, a2, a3, m0, m1, m2, m3⟩ := KK.out _ HEB.out)
                        | (go_at_call 53; (with_reducible refine (CM.out _).mono ?_); rintro r0 wm ⟨rfl, hb0⟩; have HEB : Hid (Below wr.heap.size wr wm) := hid (bCl (bCl HBd.out (show Below wd.heap.size wd _ by (repeat (first | with_reducible exact Below.refl _ _ | with_reducible refine Below.drew ?_ | with_reducible refine bAl ?_ _ | fail)))) hb0); clear hb0; obtain ⟨a0, a1, a2, a3, m0, m1, m2, m3⟩ := KK.out _ HEB.out)
                        | (go_at_call 53; (with_reducible refine (CD.out _).mono ?_); rintro r0 wd ⟨rfl, hb0⟩; have HBd : Hid (Below wr.heap.size wr wd) := hid (bCl (show Below wr.heap.size wr _ by (repeat (first | with_reducible exact Below.refl _ _ | with_reducible refine Below.drew ?_ | with_reducible refine bAl ?_ _ | fail))) hb0); clear hb0; obtain ⟨a0, a1, a2, a3, m0, m1, m2, m3⟩ := KK.out _ HBd.out)
                        | (go_at_call 53; (with_reducible refine (CM.out _).mono ?_); rintro r0 wm ⟨rfl, hb0⟩; have HBm : Hid (Below wr.heap.size wr wm) := hid (bCl (show Below wr.heap.size wr _ by (repeat (first | with_reducible exact Below.refl _ _ | with_reducible refine Below.drew ?_ | with_reducible refine bAl ?_ _ | fail))) hb0); clear hb0; obtain ⟨a0, a1, a2, a3, m0, m1, m2, m3⟩ := KK.out _ HBm.out)
                        | fail)
                      all_goals
                        go_upto_region 13 with fail
                        go_quiet (fail)
                        go_wp2_with fail
                        go_roundw
                        case rel => exact ⟨by first | exact bCl HBR.out HEB.out | exact bDn (bCl HBR.out HEB.out) _ | exact (bCl HBR.out HEB.out).drew | fail, k + 1, by omega, by omega, by go_num, by rw [HN.out]; simp⟩
                        case measure => simp [intOf]; omega
                    · have u3 : decide (dk.top - dk.bottom < dm.top - dm.bottom) = false := decide_eq_false h3
                      have HL : Hid (lt = false) := by show _ = _; rw [HLT.out, u1, u2', u3]; rfl
                      rw [HL.out] at HN
                      clear HLT HL h1 h2 h3
                      go_wp2_with fail
                      go_region_held3 (fun w' => w'.cell? ⟨g, o + k * 4, none⟩ = some (.slice Ak_ dk.pos.length ck_) ∧ w'.cell? ⟨g, o + k * 4 + 1, none⟩ = some (.int .i64 dk.x) ∧ w'.cell? ⟨g, o + k * 4 + 2, none⟩ = some (.int .i64 dk.top) ∧ w'.cell? ⟨g, o + k * 4 + 3, none⟩ = some (.int .i64 dk.bottom) ∧ w'.cell? ⟨g, o + j * 4, none⟩ = some (.slice Am dm.pos.length cm) ∧ w'.cell? ⟨g, o + j * 4 + 1, none⟩ = some (.int .i64 dm.x) ∧ w'.cell? ⟨g, o + j * 4 + 2, none⟩ = some (.int .i64 dm.top) ∧ w'.cell? ⟨g, o + j * 4 + 3, none⟩ = some (.int .i64 dm.bottom)) (go_keep) (first
                        | (go_at_call 53; (with_reducible refine (CD.out _).mono ?_); rintro r0 wd ⟨rfl, hb0⟩; have HEB : Hid (Below wr.heap.size wr wd) := hid (bCl (bCl HBm.out (show Below wm.heap.size wm _ by (repeat (first | with_reducible exact Below.refl _ _ | with_reducible refine Below.drew ?_ | with_reducible refine bAl ?_ _ | fail)))) hb0); clear hb0; obtain ⟨a0, a1, a2, a3, m0, m1, m2, m3⟩ := KK.out _ HEB.out)
                        | (go_at_call 53; (with_reducible refine (CM.out _).mono ?_); rintro r0 wm ⟨rfl, hb0⟩; have HEB : Hid (Below wr.heap.size wr wm) := hid (bCl (bCl HBd.out (show Below wd.heap.size wd _ by (repeat (first | with_reducible exact Below.refl _ _ | with_reducible refine Below.drew ?_ | with_reducible refine bAl ?_ _ | fail)))) hb0); clear hb0; obtain ⟨a0, a1, a2, a3, m0, m1, m2, m3⟩ := KK.out _ HEB.out)
                        | (go_at_call 53; (with_reducible refine (CD.out _).mono ?_); rintro r0 wd ⟨rfl, hb0⟩; have HBd : Hid (Below wr.heap.size wr wd) := hid (bCl (show Below wr.heap.size wr _ by (repeat (first | with_reducible exact Below.refl _ _ | with_reducible refine Below.drew ?_ | with_reducible refine bAl ?_ _ | fail))) hb0); clear hb0; obtain ⟨a0, a1, a2, a3, m0, m1, m2, m3⟩ := KK.out _ HBd.out)
                        | (go_at_call 53; (with_reducible refine (CM.out _).mono ?_); rintro r0 wm ⟨rfl, hb0⟩; have HBm : Hid (Below wr.heap.size wr wm) := hid (bCl (show Below wr.heap.size wr _ by (repeat (first | with_reducible exact Below.refl _ _ | with_reducible refine Below.drew ?_ | with_reducible refine bAl ?_ _ | fail))) hb0); clear hb0; obtain ⟨a0, a1, a2, a3, m0, m1, m2, m3⟩ := KK.out _ HBm.out)
                        | fail)
                      all_goals
                        go_upto_region 13 with fail
                        go_quiet (fail)
                        go_wp2_with fail
                        go_roundw
                        case rel => exact ⟨by first | exact bCl HBR.out HEB.out | exact bDn (bCl HBR.out HEB.out) _ | exact (bCl HBR.out HEB.out).drew | fail, k + 1, by omega, by omega, by go_num, by rw [HN.out]; simp⟩
                        case measure => simp [intOf]; omega
                  · have u2 : (ud == ue) = false := by simpa using h2
                    have u2' : decide (ud = ue) = false := decide_eq_false h2
                    have HL : Hid (lt = false) := by show _ = _; rw [HLT.out, u1, u2']; rfl
                    rw [HL.out] at HN
                    clear HLT HL h1 h2
                    go_wp2_with fail
                    go_region_held3 (fun w' => w'.cell? ⟨g, o + k * 4, none⟩ = some (.slice Ak_ dk.pos.length ck_) ∧ w'.cell? ⟨g, o + k * 4 + 1, none⟩ = some (.int .i64 dk.x) ∧ w'.cell? ⟨g, o + k * 4 + 2, none⟩ = some (.int .i64 dk.top) ∧ w'.cell? ⟨g, o + k * 4 + 3, none⟩ = some (.int .i64 dk.bottom) ∧ w'.cell? ⟨g, o + j * 4, none⟩ = some (.slice Am dm.pos.length cm) ∧ w'.cell? ⟨g, o + j * 4 + 1, none⟩ = some (.int .i64 dm.x) ∧ w'.cell? ⟨g, o + j * 4 + 2, none⟩ = some (.int .i64 dm.top) ∧ w'.cell? ⟨g, o + j * 4 + 3, none⟩ = some (.int .i64 dm.bottom)) (go_keep) (first
                      | (go_at_call 53; (with_reducible refine (CD.out _).mono ?_); rintro r0 wd ⟨rfl, hb0⟩; have HEB : Hid (Below wr.heap.size wr wd) := hid (bCl (bCl HBm.out (show Below wm.heap.size wm _ by (repeat (first | with_reducible exact Below.refl _ _ | with_reducible refine Below.drew ?_ | with_reducible refine bAl ?_ _ | fail)))) hb0); clear hb0; obtain ⟨a0, a1, a2, a3, m0, m1, m2, m3⟩ := KK.out _ HEB.out)
                      | (go_at_call 53; (with_reducible refine (CM.out _).mono ?_); rintro r0 wm ⟨rfl, hb0⟩; have HEB : Hid (Below wr.heap.size wr wm) := hid (bCl (bCl HBd.out (show Below wd.heap.size wd _ by (repeat (first | with_reducible exact Below.refl _ _ | with_reducible refine Below.drew ?_ | with_reducible refine bAl ?_ _ | fail)))) hb0); clear hb0; obtain ⟨a0, a1, a2, a3, m0, m1, m2, m3⟩ := KK.out _ HEB.out)
                      | (go_at_call 53; (with_reducible refine (CD.out _).mono ?_); rintro r0 wd ⟨rfl, hb0⟩; have HBd : Hid (Below wr.heap.size wr wd) := hid (bCl (show Below wr.heap.size wr _ by (repeat (first | with_reducible exact Below.refl _ _ | with_reducible refine Below.drew ?_ | with_reducible refine bAl ?_ _ | fail))) hb0); clear hb0; obtain ⟨a0, a1, a2, a3, m0, m1, m2, m3⟩ := KK.out _ HBd.out)
                      | (go_at_call 53; (with_reducible refine (CM.out _).mono ?_); rintro r0 wm ⟨rfl, hb0⟩; have HBm : Hid (Below wr.heap.size wr wm) := hid (bCl (show Below wr.heap.size wr _ by (repeat (first | with_reducible exact Below.refl _ _ | with_reducible refine Below.drew ?_ | with_reducible refine bAl ?_ _ | fail))) hb0); clear hb0; obtain ⟨a0, a1, a2, a3, m0, m1, m2, m3⟩ := KK.out _ HBm.out)
                      | fail)
                    all_goals
                      go_upto_region 13 with fail
                      go_quiet (fail)
                      go_wp2_with fail
                      go_roundw
                      case rel => exact ⟨by first | exact bCl HBR.out HEB.out | exact bDn (bCl HBR.out HEB.out) _ | exact (bCl HBR.out HEB.out).drew | fail, k + 1, by omega, by omega, by go_num, by rw [HN.out]; simp⟩
                      case measure => simp [intOf]; omega
              · have i5 : decide ((k : Int) < (l.length : Int)) = false := by rw [decide_eq_false_iff_not]; omega
                have hk' : k = l.length := by omega
                have HK : Hid (r = ((l.getD (bestK (hitLt x y) zeroC l l.length) zeroC).pos, 0)) := HR.out
                rw [← hk', getD_at l zeroC hj] at HK
                clear HR
                generalize l[bestK (hitLt x y) zeroC l k]'hj = dm at *
                generalize bestK (hitLt x y) zeroC l k = j at *
                have i8 : (0 : Int) ≤ (j : Int) := by omega
                have i9 : (j : Int) < (l.length : Int) := by omega
                have x0 := (hbr.cell (p := ⟨g, _, none⟩) hg).trans m0
                have HIM := hid him
                clear m0 m1 m2 m3 him hrd hls hk' hbr
                go_wp2_with fail
                go_ret2
                refine ⟨bCl (KB.out w4 HT4.out).2.1 HBR.out, .slice Am dm.pos.length cm, by rw [HK.out]; rfl, ?_⟩
                rw [HK.out]
                have hb := HBR.out
                exact HIM.out.keep (fun p hp => hb.cell hp.2) (fun k hk => ⟨Nat.le_trans HG0.out hk.1, Nat.lt_of_lt_of_le hk.2 hb.size⟩)
end Go.Proofs.YtmahiejfniaahaaGreatDoor
