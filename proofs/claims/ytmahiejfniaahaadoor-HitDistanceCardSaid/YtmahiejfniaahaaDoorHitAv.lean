/- hit.At. Written by wip/genhit.py. -/
import Derived.Test.YtmahiejfniaahaaDoorHN
import Derived.Test.YtmahiejfniaahaaDoorHL
import Derived.Test.YtmahiejfniaahaaDoorCarAlv
import Derived.Laws.EntriesVeiled
set_option linter.unusedVariables false
set_option linter.unusedSimpArgs false
set_option maxRecDepth 100000
namespace Go.Proofs.YtmahiejfniaahaaDoor
open Go.RowKit

set_option maxHeartbeats 8000000 in
theorem hat_any (t : Tree) (b : Bx) (x y : Int) (A Ak As : Option Addr) (cap ck cs : Nat) (w : World) (hv : SliceR treeE w (Lt w.heap.size) t.kids (.slice A t.kids.length cap)) (htx : t.text.size ≤ maxLen) (hb : BoxIn w b Ak As ck cs) (htab : TabOk w) :
    Calls Tryd.prog 27 #[nodeV t A cap, boxV b Ak As ck cs, .int .i64 x, .int .i64 y] w (PosRes w (hitR t b x y)) := by
  have CA : Hid (∀ W, Below w.heap.size w W → Calls Tryd.prog 11 #[nodeV t A cap, boxV b Ak As ck cs] W (CarsRes W (carsR t b))) := fun W hW => call_any t b A Ak As cap ck cs W (hv.below hW hW.size) htx (hb.below hW) (htab.below hW)
  have LX : Hid (∀ W, Calls Tryd.prog 46 #[.int .i64 x] W fun e w' => e = .returned (.bool (lenOk x)) ∧ W = w') := fun W => lenValid_q x W
  have LY : Hid (∀ W, Calls Tryd.prog 46 #[.int .i64 y] W fun e w' => e = .returned (.bool (lenOk y)) ∧ W = w') := fun W => lenValid_q y W
  generalize hW0 : (((w.alloc (Obj.cells #[.int .i64 t.kind, .string t.text, .int .i64 t.cols, .slice A t.kids.length cap] 24)).alloc (Obj.cells (boxC b.f (.slice Ak b.kids.length ck) (.slice As b.f.src.length cs)) 28)).alloc (.cells #[.int .i64 x] 3)).alloc (.cells #[.int .i64 y] 3) = W0
  have KB : Hid (∀ W, Below W0.heap.size W0 W → Laid2 W w.heap.size w.heap.size t b A Ak As cap ck cs ∧ W.cell? ⟨w.heap.size + 2, 0, none⟩ = some (.int .i64 x) ∧ W.cell? ⟨w.heap.size + 3, 0, none⟩ = some (.int .i64 y) ∧ Below w.heap.size w W ∧ w.heap.size + 3 < W.heap.size) := fun W hW => by
    have hz0 : W0.heap.size = w.heap.size + 4 := by rw [← hW0]; simp
    have h1 := Laid2.new w t b A Ak As cap ck cs 24 28 hv hb
    have h2 := (h1.below (bNew _ (.cells #[.int .i64 x] 3)) (by simp) (by simp <;> omega)).below (bNew _ (.cells #[.int .i64 y] 3)) (by simp <;> omega) (by simp <;> omega)
    have h3 : Below w.heap.size w W0 := by rw [← hW0]; exact bAl (bAl (bAl (bNew _ _) _) _) _
    have h4 : BoxL W0 (w.heap.size + 2) 0 [.int .i64 x] := by rw [← hW0]; exact (BoxL.new _ _ _ _ (by simp) _ rfl).below (bNew _ _) (by simp)
    have h5 : BoxL W0 (w.heap.size + 3) 0 [.int .i64 y] := by rw [← hW0]; exact BoxL.new _ _ _ _ (by simp) _ rfl
    rw [hW0] at h2
    refine ⟨h2.below hW (by omega) (by omega), ?_, ?_, h3.trans (hW.mono h3.size), by have := hW.size; omega⟩
    · have := h4.below hW (by omega) 0 _ rfl
      simpa using this
    · have := h5.below hW (by omega) 0 _ rfl
      simpa using this
  have HR1 : Hid ((validS t && validB b) = false → hitR t b x y = ([], 1)) := fun h => hitR_arg x y h
  have HR2_ : Hid ((validS t && validB b) = true → (lenOk x && lenOk y) = false → hitR t b x y = ([], 2)) := fun h h2 => hitR_rng h h2
  have HR3 : Hid ((validS t && validB b) = true → (lenOk x && lenOk y) = true → carsR t b = ([], 8) → hitR t b x y = ([], 8)) := fun h h2 h3 => hitR_none h h2 h3
  have HR4 : Hid ((validS t && validB b) = true → (lenOk x && lenOk y) = true → ∀ l, carsR t b = (l, 0) → hitR t b x y = ((l.getD (bestK (hitLt x y) zeroC l l.length) zeroC).pos, 0)) := fun h h2 l h3 => hitR_some h h2 h3
  have HCC : Hid ((validS t && validB b) = true → carsR t b = ([], 8) ∨ ∃ l, carsR t b = (l, 0) ∧ carsL t b (allS [] t) = some l ∧ (∀ d ∈ l, d.Sm) ∧ 0 < l.length) := fun h => carsR_cases h
  have HC1 : Hid ((validS t && validB b) = false → carsR t b = ([], 1)) := fun h => by rw [carsR, if_pos h]
  generalize hitR t b x y = r at *
  clear hv htx hb htab
  cases hvv : (validS t && validB b) with
  | false =>
    have HR : Hid (r = ([], 1)) := HR1.out hvv
    rw [HC1.out hvv] at CA
    clear HR1 HR2_ HR3 HR4 HCC HC1 hvv LX LY
    obtain ⟨hl2, hpx, hpy, hbw, hgz⟩ := KB.out W0 (Below.refl _ _)
    have m0 := hl2.node 0 _ rfl
    have m1 := hl2.node 1 _ rfl
    have m2 := hl2.node 2 _ rfl
    have m3 := hl2.node 3 _ rfl
    have n0 := hl2.box 0 _ rfl
    have n1 := hl2.box 1 _ rfl
    have n2 := hl2.box 2 _ rfl
    have n3 := hl2.box 3 _ rfl
    have n4 := hl2.box 4 _ rfl
    have n5 := hl2.box 5 _ rfl
    have n6 := hl2.box 6 _ rfl
    have n7 := hl2.box 7 _ rfl
    have n8 := hl2.box 8 _ rfl
    have n9 := hl2.box 9 _ rfl
    have n10 := hl2.box 10 _ rfl
    simp only [Nat.zero_add] at m0 m1 m2 m3 n0 n1 n2 n3 n4 n5 n6 n7 n8 n9 n10
    have HBW_W0 := hid hbw
    clear hl2 hbw hgz
    go_enter Tryd.func27, Tryd.ntmps27
    go_wp2_with fail
    clear hW0
    refine (CA.out _ HBW_W0.out).mono ?_
    rintro e0 w2 ⟨hb2, v2, rfl, hr2⟩
    obtain ⟨A2, c2, rfl⟩ := hr2.form
    have HT2 := hid hb2
    have HR2 := hid hr2
    clear hb2 hr2
    clear m0 m1 m2 m3 n0 n1 n2 n3 n4 n5 n6 n7 n8 n9 n10 hpx hpy
    obtain ⟨hl2, hpx, hpy, hbw, hgz⟩ := KB.out w2 HT2.out
    have m0 := hl2.node 0 _ rfl
    have m1 := hl2.node 1 _ rfl
    have m2 := hl2.node 2 _ rfl
    have m3 := hl2.node 3 _ rfl
    have n0 := hl2.box 0 _ rfl
    have n1 := hl2.box 1 _ rfl
    have n2 := hl2.box 2 _ rfl
    have n3 := hl2.box 3 _ rfl
    have n4 := hl2.box 4 _ rfl
    have n5 := hl2.box 5 _ rfl
    have n6 := hl2.box 6 _ rfl
    have n7 := hl2.box 7 _ rfl
    have n8 := hl2.box 8 _ rfl
    have n9 := hl2.box 9 _ rfl
    have n10 := hl2.box 10 _ rfl
    simp only [Nat.zero_add] at m0 m1 m2 m3 n0 n1 n2 n3 n4 n5 n6 n7 n8 n9 n10
    have HBW_w2 := hid hbw
    clear hl2 hbw hgz
    go_wp2_with fail
    go_ret2
    exact ⟨HBW_w2.out, .slice none 0 0, by rw [HR.out]; rfl, by rw [HR.out]; exact SliceR.nil_ 0 (Nat.zero_le _) none⟩
  | true =>
    have HRr := hid (HR2_.out hvv)
    have HRn := hid (HR3.out hvv)
    have HRs := hid (HR4.out hvv)
    have HCV := hid (HCC.out hvv)
    clear HR1 HR2_ HR3 HR4 HCC HC1 hvv
    have HER : Hid (((carsR t b).2 == 1) = false) := by
      rcases HCV.out with h | ⟨l, h, _⟩ <;> (show _ = _; rw [h]; rfl)
    cases hlx : lenOk x with
    | false =>
      rw [hlx] at HRr LX
      have HR : Hid (r = ([], 2)) := HRr.out rfl
      have i1 := HER.out
      clear HRr HRn HRs HCV HER hlx LY
      generalize carsR t b = rr at *
      obtain ⟨l, er⟩ := rr
      simp only at i1
      have i2 : ¬ (er = 1) := by intro h; rw [h] at i1; cases i1
      have i3 : decide (er = 1) = false := decide_eq_false i2
      obtain ⟨hl2, hpx, hpy, hbw, hgz⟩ := KB.out W0 (Below.refl _ _)
      have m0 := hl2.node 0 _ rfl
      have m1 := hl2.node 1 _ rfl
      have m2 := hl2.node 2 _ rfl
      have m3 := hl2.node 3 _ rfl
      have n0 := hl2.box 0 _ rfl
      have n1 := hl2.box 1 _ rfl
      have n2 := hl2.box 2 _ rfl
      have n3 := hl2.box 3 _ rfl
      have n4 := hl2.box 4 _ rfl
      have n5 := hl2.box 5 _ rfl
      have n6 := hl2.box 6 _ rfl
      have n7 := hl2.box 7 _ rfl
      have n8 := hl2.box 8 _ rfl
      have n9 := hl2.box 9 _ rfl
      have n10 := hl2.box 10 _ rfl
      simp only [Nat.zero_add] at m0 m1 m2 m3 n0 n1 n2 n3 n4 n5 n6 n7 n8 n9 n10
      have HBW_W0 := hid hbw
      clear hl2 hbw hgz
      go_enter Tryd.func27, Tryd.ntmps27
      go_wp2_with fail
      clear hW0
      refine (CA.out _ HBW_W0.out).mono ?_
      rintro e0 w2 ⟨hb2, v2, rfl, hr2⟩
      obtain ⟨A2, c2, rfl⟩ := hr2.form
      have HT2 := hid hb2
      have HR2 := hid hr2
      clear hb2 hr2
      clear m0 m1 m2 m3 n0 n1 n2 n3 n4 n5 n6 n7 n8 n9 n10 hpx hpy
      obtain ⟨hl2, hpx, hpy, hbw, hgz⟩ := KB.out w2 HT2.out
      have m0 := hl2.node 0 _ rfl
      have m1 := hl2.node 1 _ rfl
      have m2 := hl2.node 2 _ rfl
      have m3 := hl2.node 3 _ rfl
      have n0 := hl2.box 0 _ rfl
      have n1 := hl2.box 1 _ rfl
      have n2 := hl2.box 2 _ rfl
      have n3 := hl2.box 3 _ rfl
      have n4 := hl2.box 4 _ rfl
      have n5 := hl2.box 5 _ rfl
      have n6 := hl2.box 6 _ rfl
      have n7 := hl2.box 7 _ rfl
      have n8 := hl2.box 8 _ rfl
      have n9 := hl2.box 9 _ rfl
      have n10 := hl2.box 10 _ rfl
      simp only [Nat.zero_add] at m0 m1 m2 m3 n0 n1 n2 n3 n4 n5 n6 n7 n8 n9 n10
      have HBW_w2 := hid hbw
      clear hl2 hbw hgz
      go_wp2_with (go_at_call 46; first | (refine (LX.out _).mono ?_; rintro e0 w3 ⟨rfl, rfl⟩) | (refine (LY.out _).mono ?_; rintro e0 w3 ⟨rfl, rfl⟩))
      go_ret2
      exact ⟨HBW_w2.out, .slice none 0 0, by rw [HR.out]; rfl, by rw [HR.out]; exact SliceR.nil_ 0 (Nat.zero_le _) none⟩
    | true =>
      cases hly : lenOk y with
      | false =>
        rw [hlx, hly] at HRr
        rw [hlx] at LX
        rw [hly] at LY
        have HR : Hid (r = ([], 2)) := HRr.out rfl
        have i1 := HER.out
        clear HRr HRn HRs HCV HER hlx hly
        generalize carsR t b = rr at *
        obtain ⟨l, er⟩ := rr
        simp only at i1
        have i2 : ¬ (er = 1) := by intro h; rw [h] at i1; cases i1
        have i3 : decide (er = 1) = false := decide_eq_false i2
        obtain ⟨hl2, hpx, hpy, hbw, hgz⟩ := KB.out W0 (Below.refl _ _)
        have m0 := hl2.node 0 _ rfl
        have m1 := hl2.node 1 _ rfl
        have m2 := hl2.node 2 _ rfl
        have m3 := hl2.node 3 _ rfl
        have n0 := hl2.box 0 _ rfl
        have n1 := hl2.box 1 _ rfl
        have n2 := hl2.box 2 _ rfl
        have n3 := hl2.box 3 _ rfl
        have n4 := hl2.box 4 _ rfl
        have n5 := hl2.box 5 _ rfl
        have n6 := hl2.box 6 _ rfl
        have n7 := hl2.box 7 _ rfl
        have n8 := hl2.box 8 _ rfl
        have n9 := hl2.box 9 _ rfl
        have n10 := hl2.box 10 _ rfl
        simp only [Nat.zero_add] at m0 m1 m2 m3 n0 n1 n2 n3 n4 n5 n6 n7 n8 n9 n10
        have HBW_W0 := hid hbw
        clear hl2 hbw hgz
        go_enter Tryd.func27, Tryd.ntmps27
        go_wp2_with fail
        clear hW0
        refine (CA.out _ HBW_W0.out).mono ?_
        rintro e0 w2 ⟨hb2, v2, rfl, hr2⟩
        obtain ⟨A2, c2, rfl⟩ := hr2.form
        have HT2 := hid hb2
        have HR2 := hid hr2
        clear hb2 hr2
        clear m0 m1 m2 m3 n0 n1 n2 n3 n4 n5 n6 n7 n8 n9 n10 hpx hpy
        obtain ⟨hl2, hpx, hpy, hbw, hgz⟩ := KB.out w2 HT2.out
        have m0 := hl2.node 0 _ rfl
        have m1 := hl2.node 1 _ rfl
        have m2 := hl2.node 2 _ rfl
        have m3 := hl2.node 3 _ rfl
        have n0 := hl2.box 0 _ rfl
        have n1 := hl2.box 1 _ rfl
        have n2 := hl2.box 2 _ rfl
        have n3 := hl2.box 3 _ rfl
        have n4 := hl2.box 4 _ rfl
        have n5 := hl2.box 5 _ rfl
        have n6 := hl2.box 6 _ rfl
        have n7 := hl2.box 7 _ rfl
        have n8 := hl2.box 8 _ rfl
        have n9 := hl2.box 9 _ rfl
        have n10 := hl2.box 10 _ rfl
        simp only [Nat.zero_add] at m0 m1 m2 m3 n0 n1 n2 n3 n4 n5 n6 n7 n8 n9 n10
        have HBW_w2 := hid hbw
        clear hl2 hbw hgz
        go_wp2_with (go_at_call 46; first | (refine (LX.out _).mono ?_; rintro e0 w3 ⟨rfl, rfl⟩) | (refine (LY.out _).mono ?_; rintro e0 w3 ⟨rfl, rfl⟩))
        go_ret2
        exact ⟨HBW_w2.out, .slice none 0 0, by rw [HR.out]; rfl, by rw [HR.out]; exact SliceR.nil_ 0 (Nat.zero_le _) none⟩
      | true =>
        have hxy : (lenOk x && lenOk y) = true := two_true hlx hly
        have HLX := hid hlx
        have HLY := hid hly
        rcases HCV.out with hc | ⟨l, hc, _, hsm, h0⟩
        · have HR : Hid (r = ([], 8)) := HRn.out hxy hc
          rw [hc] at CA
          rw [hlx] at LX
          rw [hly] at LY
          clear HRr HRn HRs HCV HER hlx hly hxy hc
          obtain ⟨hl2, hpx, hpy, hbw, hgz⟩ := KB.out W0 (Below.refl _ _)
          have m0 := hl2.node 0 _ rfl
          have m1 := hl2.node 1 _ rfl
          have m2 := hl2.node 2 _ rfl
          have m3 := hl2.node 3 _ rfl
          have n0 := hl2.box 0 _ rfl
          have n1 := hl2.box 1 _ rfl
          have n2 := hl2.box 2 _ rfl
          have n3 := hl2.box 3 _ rfl
          have n4 := hl2.box 4 _ rfl
          have n5 := hl2.box 5 _ rfl
          have n6 := hl2.box 6 _ rfl
          have n7 := hl2.box 7 _ rfl
          have n8 := hl2.box 8 _ rfl
          have n9 := hl2.box 9 _ rfl
          have n10 := hl2.box 10 _ rfl
          simp only [Nat.zero_add] at m0 m1 m2 m3 n0 n1 n2 n3 n4 n5 n6 n7 n8 n9 n10
          have HBW_W0 := hid hbw
          clear hl2 hbw hgz
          go_enter Tryd.func27, Tryd.ntmps27
          go_wp2_with fail
          clear hW0
          refine (CA.out _ HBW_W0.out).mono ?_
          rintro e0 w2 ⟨hb2, v2, rfl, hr2⟩
          obtain ⟨A2, c2, rfl⟩ := hr2.form
          have HT2 := hid hb2
          have HR2 := hid hr2
          clear hb2 hr2
          clear m0 m1 m2 m3 n0 n1 n2 n3 n4 n5 n6 n7 n8 n9 n10 hpx hpy
          obtain ⟨hl2, hpx, hpy, hbw, hgz⟩ := KB.out w2 HT2.out
          have m0 := hl2.node 0 _ rfl
          have m1 := hl2.node 1 _ rfl
          have m2 := hl2.node 2 _ rfl
          have m3 := hl2.node 3 _ rfl
          have n0 := hl2.box 0 _ rfl
          have n1 := hl2.box 1 _ rfl
          have n2 := hl2.box 2 _ rfl
          have n3 := hl2.box 3 _ rfl
          have n4 := hl2.box 4 _ rfl
          have n5 := hl2.box 5 _ rfl
          have n6 := hl2.box 6 _ rfl
          have n7 := hl2.box 7 _ rfl
          have n8 := hl2.box 8 _ rfl
          have n9 := hl2.box 9 _ rfl
          have n10 := hl2.box 10 _ rfl
          simp only [Nat.zero_add] at m0 m1 m2 m3 n0 n1 n2 n3 n4 n5 n6 n7 n8 n9 n10
          have HBW_w2 := hid hbw
          clear hl2 hbw hgz
          go_wp2_with (go_at_call 46; first | (refine (LX.out _).mono ?_; rintro e0 w3 ⟨rfl, rfl⟩) | (refine (LY.out _).mono ?_; rintro e0 w3 ⟨rfl, rfl⟩))
          go_ret2
          exact ⟨HBW_w2.out, .slice none 0 0, by rw [HR.out]; rfl, by rw [HR.out]; exact SliceR.nil_ 0 (Nat.zero_le _) none⟩
        · have HR := hid (HRs.out hxy l hc)
          rw [hc] at CA
          rw [hlx] at LX
          rw [hly] at LY
          have HSM := hid hsm
          have HH0 := hid h0
          clear HRr HRn HRs HCV HER hlx hly hxy hc hsm h0
          obtain ⟨hl2, hpx, hpy, hbw, hgz⟩ := KB.out W0 (Below.refl _ _)
          have m0 := hl2.node 0 _ rfl
          have m1 := hl2.node 1 _ rfl
          have m2 := hl2.node 2 _ rfl
          have m3 := hl2.node 3 _ rfl
          have n0 := hl2.box 0 _ rfl
          have n1 := hl2.box 1 _ rfl
          have n2 := hl2.box 2 _ rfl
          have n3 := hl2.box 3 _ rfl
          have n4 := hl2.box 4 _ rfl
          have n5 := hl2.box 5 _ rfl
          have n6 := hl2.box 6 _ rfl
          have n7 := hl2.box 7 _ rfl
          have n8 := hl2.box 8 _ rfl
          have n9 := hl2.box 9 _ rfl
          have n10 := hl2.box 10 _ rfl
          simp only [Nat.zero_add] at m0 m1 m2 m3 n0 n1 n2 n3 n4 n5 n6 n7 n8 n9 n10
          have HBW_W0 := hid hbw
          clear hl2 hbw hgz
          go_enter Tryd.func27, Tryd.ntmps27
          go_wp2_with fail
          clear hW0
          refine (CA.out _ HBW_W0.out).mono ?_
          rintro e0 w2 ⟨hb2, v2, rfl, hr2⟩
          obtain ⟨A2, c2, rfl⟩ := hr2.form
          have HT2 := hid hb2
          have HR2 := hid hr2
          clear hb2 hr2
          clear m0 m1 m2 m3 n0 n1 n2 n3 n4 n5 n6 n7 n8 n9 n10 hpx hpy
          obtain ⟨hl2, hpx, hpy, hbw, hgz⟩ := KB.out w2 HT2.out
          have m0 := hl2.node 0 _ rfl
          have m1 := hl2.node 1 _ rfl
          have m2 := hl2.node 2 _ rfl
          have m3 := hl2.node 3 _ rfl
          have n0 := hl2.box 0 _ rfl
          have n1 := hl2.box 1 _ rfl
          have n2 := hl2.box 2 _ rfl
          have n3 := hl2.box 3 _ rfl
          have n4 := hl2.box 4 _ rfl
          have n5 := hl2.box 5 _ rfl
          have n6 := hl2.box 6 _ rfl
          have n7 := hl2.box 7 _ rfl
          have n8 := hl2.box 8 _ rfl
          have n9 := hl2.box 9 _ rfl
          have n10 := hl2.box 10 _ rfl
          simp only [Nat.zero_add] at m0 m1 m2 m3 n0 n1 n2 n3 n4 n5 n6 n7 n8 n9 n10
          have HBW_w2 := hid hbw
          clear hl2 hbw hgz
          have HMF : Hid (Calls Tryd.prog 47 #[.slice A2 l.length c2, .func (.func 48) #[] #[.pointer (some ⟨w.heap.size + 2, 0, none⟩), .pointer (some ⟨w.heap.size + 3, 0, none⟩)]] w2 (MinRes w2 (fun k => W0.heap.size ≤ k ∧ k < w2.heap.size) (l.getD (bestK (hitLt x y) zeroC l l.length) zeroC))) :=
            minf_any l x y A2 c2 (w.heap.size + 2) (w.heap.size + 3) _ w2 (fun k hk => hk.2) HR2.out HSM.out HH0.out HLX.out HLY.out hpx hpy
          have HG0 : Hid (w.heap.size ≤ W0.heap.size) := (KB.out W0 (Below.refl _ _)).2.2.2.1.size
          clear HLX HLY HSM HH0
          go_wp2_with (go_at_call 46; first | (refine (LX.out _).mono ?_; rintro e0 w3 ⟨rfl, rfl⟩) | (refine (LY.out _).mono ?_; rintro e0 w3 ⟨rfl, rfl⟩))
          refine HMF.out.mono ?_
          rintro e0 w5 ⟨v5, rfl, hi5, hb5⟩
          obtain ⟨A5, c5, rfl⟩ := hi5.form
          have HB5 := hid hb5
          have HI5 := hid hi5
          clear hb5 hi5
          clear m0 m1 m2 m3 n0 n1 n2 n3 n4 n5 n6 n7 n8 n9 n10 hpx hpy
          generalize l.getD (bestK (hitLt x y) zeroC l l.length) zeroC = d at *
          go_upto_region 9 with fail
          obtain ⟨X5, hX5⟩ : ∃ W, w5.alloc (.cells #[.slice A5 d.pos.length c5, .int .i64 d.x, .int .i64 d.top, .int .i64 d.bottom] 42) = W := ⟨_, rfl⟩
          have hx5 : BoxL X5 w5.heap.size 0 [.slice A5 d.pos.length c5, .int .i64 d.x, .int .i64 d.top, .int .i64 d.bottom] := by rw [← hX5]; exact BoxL.new _ _ _ _ rfl _ rfl
          have hb5' : Below w5.heap.size w5 X5 := by rw [← hX5]; exact bNew _ _
          have x0 := hx5 0 _ rfl
          simp only [Nat.zero_add] at x0
          have HBX : Hid (Below w2.heap.size w2 X5) := bCl HB5.out hb5'
          try rw [hX5]
          clear hX5 hx5 hb5'
          go_wp2_with fail
          go_ret2
          refine ⟨bCl HBW_w2.out HBX.out, .slice A5 d.pos.length c5, by rw [HR.out]; rfl, ?_⟩
          rw [HR.out]
          have hbx := HBX.out
          exact HI5.out.keep (fun p hp => hbx.cell hp.2) (fun k hk => ⟨Nat.le_trans HG0.out hk.1, Nat.lt_of_lt_of_le hk.2 hbx.size⟩)
end Go.Proofs.YtmahiejfniaahaaDoor
