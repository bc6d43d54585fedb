/- ref40.Select. Written by wip/genslt.py. -/
import Derived.Test.YtmahiejfniaahaaGreatDoorSltPv
import Derived.Test.YtmahiejfniaahaaGreatDoorRow40v
import Derived.Test.YtmahiejfniaahaaGreatDoorR28cv
import Derived.Test.YtmahiejfniaahaaGreatDoorHI
import Derived.Laws.EntriesVeiled
set_option linter.unusedVariables false
set_option linter.unusedSimpArgs false
set_option maxRecDepth 100000
namespace Go.Proofs.YtmahiejfniaahaaGreatDoor
open Go.RowKit

set_option maxHeartbeats 8000000 in
theorem rsel_any (t : Tree) (b : Bx) (q : List Int) (f e : Int) (A Ak As Aq : Option Addr) (cap ck cs cq : Nat) (w : World) (hv : SliceR treeE w (Lt w.heap.size) t.kids (.slice A t.kids.length cap)) (htx : t.text.size ≤ maxLen) (hct : countS t ≤ 900000) (hb : BoxIn w b Ak As ck cs) (hcb : cntB b ≤ 1000000) (hq : IntsR w (Lt w.heap.size) q (.slice Aq q.length cq)) (hf : In64 f) (he : In64 e) (hql : q.length ≤ 100000) :
    Calls Tryz.prog 20 #[nodeV t A cap, boxV b Ak As ck cs, .agg #[.slice Aq q.length cq, .int .i64 f, .int .i64 e]] w (RSelRes w (selR t b q f e)) := by
  have CV : Hid (∀ W, Below w.heap.size w W → Calls Tryz.prog 31 #[nodeV t A cap] W fun e w' => e = .returned (.bool (validS t)) ∧ Below W.heap.size W w') := fun W hW => valid_any t A cap W (hv.below hW hW.size) htx (by omega)
  have CW : Hid (∀ W, Below w.heap.size w W → Calls Tryz.prog 41 #[boxV b Ak As ck cs] W fun e w' => e = .returned (.bool (validB b)) ∧ Below W.heap.size W w') := fun W hW => bvalid28_any b Ak As ck cs W hb.ok.name (hb.below hW).src (hb.below hW).kids hcb
  have CR : Hid (∀ W, Below w.heap.size w W → Calls Tryz.prog 34 #[nodeV t A cap, .slice Aq q.length cq] W (RowP (Lt W.heap.size) W (rowRes t q).1.kind (rowRes t q).1.text (rowRes t q).1.cols (rowRes t q).1.kids (rowRes t q).2)) := fun W hW => rRow_any t q A Aq cap cq W (hv.below hW hW.size) htx hct (hq.below hW hW.size)
  have CX0 : Hid (validS t = true → validB b = true → ∀ t0, rowS t q = some t0 → ∀ W (x : Int), Below w.heap.size w W → 0 ≤ x ∧ x ≤ t0.kids.length → Calls Tryz.prog 43 #[nodeV t A cap, boxV b Ak As ck cs, .slice Aq q.length cq, .int .i64 x] W (PlcRes W (placeS t b q x))) := fun h1 h2 t0 h3 W x hW hx => rrow_any t t0 b q x A Ak As Aq cap ck cs cq W (hv.below hW hW.size) htx (hb.below hW) h1 h2 (hq.below hW hW.size) h3 hx hql
  generalize hW0 : (((w.alloc (Obj.cells #[.int .i64 t.kind, .string t.text, .int .i64 t.cols, .slice A t.kids.length cap] 24)).alloc (Obj.cells (boxC b.f (.slice Ak b.kids.length ck) (.slice As b.f.src.length cs)) 28)).alloc (.cells #[.slice Aq q.length cq, .int .i64 f, .int .i64 e] 49)).alloc (.cells #[.int .i64 0, .int .i64 0, .int .i64 0, .int .i64 0] 52) = W0
  have KB : Hid (∀ W, Below W0.heap.size W0 W → Laid2 W w.heap.size w.heap.size t b A Ak As cap ck cs ∧ BoxL W (w.heap.size + 2) 0 [.slice Aq q.length cq, .int .i64 f, .int .i64 e] ∧ BoxL W (w.heap.size + 3) 0 [.int .i64 0, .int .i64 0, .int .i64 0, .int .i64 0] ∧ FreeB W (w.heap.size + 3) ∧ Below w.heap.size w W ∧ w.heap.size + 3 < W.heap.size) := fun W hW => by
    have hz0 : W0.heap.size = w.heap.size + 4 := by rw [← hW0]; simp
    have h1 := Laid2.new w t b A Ak As cap ck cs 24 28 hv hb
    have h2 := (h1.below (bNew _ (.cells #[.slice Aq q.length cq, .int .i64 f, .int .i64 e] 49)) (by simp) (by simp <;> omega)).below (bNew _ (.cells #[.int .i64 0, .int .i64 0, .int .i64 0, .int .i64 0] 52)) (by simp <;> omega) (by simp <;> omega)
    have h3 : Below w.heap.size w W0 := by rw [← hW0]; exact bAl (bAl (bAl (bNew _ _) _) _) _
    have h4 : BoxL W0 (w.heap.size + 2) 0 [.slice Aq q.length cq, .int .i64 f, .int .i64 e] := by rw [← hW0]; exact (BoxL.new _ _ _ _ (by simp) _ rfl).below (bNew _ _) (by simp)
    have h5 : BoxL W0 (w.heap.size + 3) 0 [.int .i64 0, .int .i64 0, .int .i64 0, .int .i64 0] ∧ FreeB W0 (w.heap.size + 3) := by rw [← hW0]; exact ⟨BoxL.new _ _ _ _ (by simp) _ rfl, FreeB.new _ _ _ _ (by simp)⟩
    rw [hW0] at h2
    exact ⟨h2.below hW (by omega) (by omega), h4.below hW (by omega), h5.1.below hW (by omega), h5.2.below hW (by omega), h3.trans (hW.mono h3.size), by have := hW.size; omega⟩
  have HR1 : Hid ((validS t && validB b) = false → selR t b q f e = ((0, 0, 0, 0), 1)) := fun h => selR_arg q f e h
  have HR2 : Hid ((validS t && validB b) = true → (decide ((rowRes t q).2 = 0) && (decide (0 ≤ f) && (decide (f ≤ e) && decide (e ≤ ((rowRes t q).1.kids.length : Int))))) = false → selR t b q f e = ((0, 0, 0, 0), 2)) := fun h h2 => selR_rng h (by rw [sel_rng t q f e (by cases hh : validS t <;> simp_all)]; exact h2)
  have HR3 : Hid ((validS t && validB b) = true → (decide ((rowRes t q).2 = 0) && (decide (0 ≤ f) && (decide (f ≤ e) && decide (e ≤ ((rowRes t q).1.kids.length : Int))))) = true → placeS t b q f = none → selR t b q f e = ((0, 0, 0, 0), 8)) := fun h h2 h3 => selR_none h (by rw [sel_rng t q f e (by cases hh : validS t <;> simp_all)]; exact h2) h3
  have HR4 : Hid ((validS t && validB b) = true → (decide ((rowRes t q).2 = 0) && (decide (0 ≤ f) && (decide (f ≤ e) && decide (e ≤ ((rowRes t q).1.kids.length : Int))))) = true → ∀ d d', placeS t b q f = some d → placeS t b q e = some d' → selR t b q f e = ((d.x, d'.x, d.top, d.bottom), 0)) := fun h h2 d d' h3 h4 => selR_some h (by rw [sel_rng t q f e (by cases hh : validS t <;> simp_all)]; exact h2) h3 h4
  have HPB := hid (placeS_both t b q f e)
  have HRY : Hid (∀ t0, validS t = true → rowS t q = some t0 → rowRes t q = (t0, 0)) := fun t0 h h' => rowRes_yes h h'
  have HRN : Hid (validS t = true → rowS t q = none → rowRes t q = (zeroT, 8)) := fun h h' => rowRes_no h h'
  generalize selR t b q f e = r at *
  clear hv htx hb hq hf he hql hct hcb
  cases hv1 : validS t with
  | false =>
    rw [hv1] at CV HR1
    have HR : Hid (r = ((0, 0, 0, 0), 1)) := HR1.out rfl
    clear HR1 HR2 HR3 HR4 CW CR CX0 HPB HRY HRN hv1
    obtain ⟨hl2, hrz, hzz, hfz, hbw, hgz⟩ := KB.out W0 (Below.refl _ _)
    have m0 := hl2.node 0 _ rfl
    have m1 := hl2.node 1 _ rfl
    have m2 := hl2.node 2 _ rfl
    have m3 := hl2.node 3 _ rfl
    have n0 := hl2.box 0 _ rfl
    have n1 := hl2.box 1 _ rfl
    have n2 := hl2.box 2 _ rfl
    have n3 := hl2.box 3 _ rfl
    have n4 := hl2.box 4 _ rfl
    have n5 := hl2.box 5 _ rfl
    have n6 := hl2.box 6 _ rfl
    have n7 := hl2.box 7 _ rfl
    have n8 := hl2.box 8 _ rfl
    have n9 := hl2.box 9 _ rfl
    have n10 := hl2.box 10 _ rfl
    have r0 := hrz 0 _ rfl
    have r1 := hrz 1 _ rfl
    have r2 := hrz 2 _ rfl
    have s0 := hzz 0 _ rfl
    have s1 := hzz 1 _ rfl
    have s2 := hzz 2 _ rfl
    have s3 := hzz 3 _ rfl
    have f0 := hfz 0
    have f1 := hfz 1
    have f2 := hfz 2
    have f3 := hfz 3
    simp only [Nat.zero_add] at m0 m1 m2 m3 n0 n1 n2 n3 n4 n5 n6 n7 n8 n9 n10 r0 r1 r2 s0 s1 s2 s3
    have HBW_W0 := hid hbw
    clear hl2 hrz hzz hfz hbw hgz
    go_enter Tryz.func20, Tryz.ntmps20
    go_wp2_with fail
    clear hW0
    refine (CV.out _ HBW_W0.out).mono ?_
    rintro e0 w1 ⟨rfl, hb1⟩
    have HT1 := hid hb1
    clear hb1
    clear m0 m1 m2 m3 n0 n1 n2 n3 n4 n5 n6 n7 n8 n9 n10 r0 r1 r2 s0 s1 s2 s3 f0 f1 f2 f3
    obtain ⟨hl2, hrz, hzz, hfz, hbw, hgz⟩ := KB.out w1 HT1.out
    have m0 := hl2.node 0 _ rfl
    have m1 := hl2.node 1 _ rfl
    have m2 := hl2.node 2 _ rfl
    have m3 := hl2.node 3 _ rfl
    have n0 := hl2.box 0 _ rfl
    have n1 := hl2.box 1 _ rfl
    have n2 := hl2.box 2 _ rfl
    have n3 := hl2.box 3 _ rfl
    have n4 := hl2.box 4 _ rfl
    have n5 := hl2.box 5 _ rfl
    have n6 := hl2.box 6 _ rfl
    have n7 := hl2.box 7 _ rfl
    have n8 := hl2.box 8 _ rfl
    have n9 := hl2.box 9 _ rfl
    have n10 := hl2.box 10 _ rfl
    have r0 := hrz 0 _ rfl
    have r1 := hrz 1 _ rfl
    have r2 := hrz 2 _ rfl
    have s0 := hzz 0 _ rfl
    have s1 := hzz 1 _ rfl
    have s2 := hzz 2 _ rfl
    have s3 := hzz 3 _ rfl
    have f0 := hfz 0
    have f1 := hfz 1
    have f2 := hfz 2
    have f3 := hfz 3
    simp only [Nat.zero_add] at m0 m1 m2 m3 n0 n1 n2 n3 n4 n5 n6 n7 n8 n9 n10 r0 r1 r2 s0 s1 s2 s3
    have HBW_w1 := hid hbw
    clear hl2 hrz hzz hfz hbw hgz
    go_wp2_with fail
    generalize hW : (((w1.setCell _ (.int .i64 0)).setCell _ (.int .i64 0)).setCell _ (.int .i64 0)).setCell _ (.int .i64 0) = WE
    obtain ⟨⟨z0, z1, z2, z3⟩, rz, rb, ro, _⟩ := four s0 s1 s2 s3 _ _ _ _ hW.symm
    have HB' := hid (rb w.heap.size w (by omega) HBW_w1.out)
    clear hW ro rb rz
    refine bodyPost_ret (v := .tuple #[.agg #[.int .i64 0, .int .i64 0, .int .i64 0, .int .i64 0], .int .i64 1]) (by simp [results, Tryz.results20, go_sem, z0, z1, z2, z3]) rfl ?_
    exact ⟨HB'.out, by rw [HR.out]⟩
  | true =>
    cases hv2 : validB b with
    | false =>
      rw [hv1] at CV
      rw [hv1, hv2] at HR1
      rw [hv2] at CW
      have HR : Hid (r = ((0, 0, 0, 0), 1)) := HR1.out rfl
      clear HR1 HR2 HR3 HR4 CR CX0 HPB HRY HRN hv1 hv2
      obtain ⟨hl2, hrz, hzz, hfz, hbw, hgz⟩ := KB.out W0 (Below.refl _ _)
      have m0 := hl2.node 0 _ rfl
      have m1 := hl2.node 1 _ rfl
      have m2 := hl2.node 2 _ rfl
      have m3 := hl2.node 3 _ rfl
      have n0 := hl2.box 0 _ rfl
      have n1 := hl2.box 1 _ rfl
      have n2 := hl2.box 2 _ rfl
      have n3 := hl2.box 3 _ rfl
      have n4 := hl2.box 4 _ rfl
      have n5 := hl2.box 5 _ rfl
      have n6 := hl2.box 6 _ rfl
      have n7 := hl2.box 7 _ rfl
      have n8 := hl2.box 8 _ rfl
      have n9 := hl2.box 9 _ rfl
      have n10 := hl2.box 10 _ rfl
      have r0 := hrz 0 _ rfl
      have r1 := hrz 1 _ rfl
      have r2 := hrz 2 _ rfl
      have s0 := hzz 0 _ rfl
      have s1 := hzz 1 _ rfl
      have s2 := hzz 2 _ rfl
      have s3 := hzz 3 _ rfl
      have f0 := hfz 0
      have f1 := hfz 1
      have f2 := hfz 2
      have f3 := hfz 3
      simp only [Nat.zero_add] at m0 m1 m2 m3 n0 n1 n2 n3 n4 n5 n6 n7 n8 n9 n10 r0 r1 r2 s0 s1 s2 s3
      have HBW_W0 := hid hbw
      clear hl2 hrz hzz hfz hbw hgz
      go_enter Tryz.func20, Tryz.ntmps20
      go_wp2_with fail
      clear hW0
      refine (CV.out _ HBW_W0.out).mono ?_
      rintro e0 w1 ⟨rfl, hb1⟩
      have HT1 := hid hb1
      clear hb1
      clear m0 m1 m2 m3 n0 n1 n2 n3 n4 n5 n6 n7 n8 n9 n10 r0 r1 r2 s0 s1 s2 s3 f0 f1 f2 f3
      obtain ⟨hl2, hrz, hzz, hfz, hbw, hgz⟩ := KB.out w1 HT1.out
      have m0 := hl2.node 0 _ rfl
      have m1 := hl2.node 1 _ rfl
      have m2 := hl2.node 2 _ rfl
      have m3 := hl2.node 3 _ rfl
      have n0 := hl2.box 0 _ rfl
      have n1 := hl2.box 1 _ rfl
      have n2 := hl2.box 2 _ rfl
      have n3 := hl2.box 3 _ rfl
      have n4 := hl2.box 4 _ rfl
      have n5 := hl2.box 5 _ rfl
      have n6 := hl2.box 6 _ rfl
      have n7 := hl2.box 7 _ rfl
      have n8 := hl2.box 8 _ rfl
      have n9 := hl2.box 9 _ rfl
      have n10 := hl2.box 10 _ rfl
      have r0 := hrz 0 _ rfl
      have r1 := hrz 1 _ rfl
      have r2 := hrz 2 _ rfl
      have s0 := hzz 0 _ rfl
      have s1 := hzz 1 _ rfl
      have s2 := hzz 2 _ rfl
      have s3 := hzz 3 _ rfl
      have f0 := hfz 0
      have f1 := hfz 1
      have f2 := hfz 2
      have f3 := hfz 3
      simp only [Nat.zero_add] at m0 m1 m2 m3 n0 n1 n2 n3 n4 n5 n6 n7 n8 n9 n10 r0 r1 r2 s0 s1 s2 s3
      have HBW_w1 := hid hbw
      clear hl2 hrz hzz hfz hbw hgz
      go_wp2_with fail
      refine (CW.out _ HBW_w1.out).mono ?_
      rintro e0 w2 ⟨rfl, hb2⟩
      have HT2 := hid (bCl HT1.out hb2)
      clear hb2
      clear m0 m1 m2 m3 n0 n1 n2 n3 n4 n5 n6 n7 n8 n9 n10 r0 r1 r2 s0 s1 s2 s3 f0 f1 f2 f3
      obtain ⟨hl2, hrz, hzz, hfz, hbw, hgz⟩ := KB.out w2 HT2.out
      have m0 := hl2.node 0 _ rfl
      have m1 := hl2.node 1 _ rfl
      have m2 := hl2.node 2 _ rfl
      have m3 := hl2.node 3 _ rfl
      have n0 := hl2.box 0 _ rfl
      have n1 := hl2.box 1 _ rfl
      have n2 := hl2.box 2 _ rfl
      have n3 := hl2.box 3 _ rfl
      have n4 := hl2.box 4 _ rfl
      have n5 := hl2.box 5 _ rfl
      have n6 := hl2.box 6 _ rfl
      have n7 := hl2.box 7 _ rfl
      have n8 := hl2.box 8 _ rfl
      have n9 := hl2.box 9 _ rfl
      have n10 := hl2.box 10 _ rfl
      have r0 := hrz 0 _ rfl
      have r1 := hrz 1 _ rfl
      have r2 := hrz 2 _ rfl
      have s0 := hzz 0 _ rfl
      have s1 := hzz 1 _ rfl
      have s2 := hzz 2 _ rfl
      have s3 := hzz 3 _ rfl
      have f0 := hfz 0
      have f1 := hfz 1
      have f2 := hfz 2
      have f3 := hfz 3
      simp only [Nat.zero_add] at m0 m1 m2 m3 n0 n1 n2 n3 n4 n5 n6 n7 n8 n9 n10 r0 r1 r2 s0 s1 s2 s3
      have HBW_w2 := hid hbw
      clear hl2 hrz hzz hfz hbw hgz
      go_wp2_with fail
      generalize hW : (((w2.setCell _ (.int .i64 0)).setCell _ (.int .i64 0)).setCell _ (.int .i64 0)).setCell _ (.int .i64 0) = WE
      obtain ⟨⟨z0, z1, z2, z3⟩, rz, rb, ro, _⟩ := four s0 s1 s2 s3 _ _ _ _ hW.symm
      have HB' := hid (rb w.heap.size w (by omega) HBW_w2.out)
      clear hW ro rb rz
      refine bodyPost_ret (v := .tuple #[.agg #[.int .i64 0, .int .i64 0, .int .i64 0, .int .i64 0], .int .i64 1]) (by simp [results, Tryz.results20, go_sem, z0, z1, z2, z3]) rfl ?_
      exact ⟨HB'.out, by rw [HR.out]⟩
    | true =>
      have CXX := hid (CX0.out hv1 hv2)
      have HRYY : Hid (∀ t0, rowS t q = some t0 → rowRes t q = (t0, 0)) := fun t0 h => HRY.out t0 hv1 h
      have HRNN := hid (HRN.out hv1)
      rw [hv1, hv2] at HR2 HR3 HR4
      have HRr := hid (HR2.out rfl)
      have HRn := hid (HR3.out rfl)
      have HRs := hid (HR4.out rfl)
      rw [hv1] at CV
      rw [hv2] at CW
      clear HR1 HR2 HR3 HR4 hv1 hv2 CX0 HRY HRN
      cases hrs : rowS t q with
      | none =>
        have hrr := HRNN.out hrs
        rw [hrr] at CR HRr
        have HR : Hid (r = ((0, 0, 0, 0), 2)) := HRr.out rfl
        clear HRr HRn HRs CXX HRYY HRNN hrr hrs HPB
        obtain ⟨hl2, hrz, hzz, hfz, hbw, hgz⟩ := KB.out W0 (Below.refl _ _)
        have m0 := hl2.node 0 _ rfl
        have m1 := hl2.node 1 _ rfl
        have m2 := hl2.node 2 _ rfl
        have m3 := hl2.node 3 _ rfl
        have n0 := hl2.box 0 _ rfl
        have n1 := hl2.box 1 _ rfl
        have n2 := hl2.box 2 _ rfl
        have n3 := hl2.box 3 _ rfl
        have n4 := hl2.box 4 _ rfl
        have n5 := hl2.box 5 _ rfl
        have n6 := hl2.box 6 _ rfl
        have n7 := hl2.box 7 _ rfl
        have n8 := hl2.box 8 _ rfl
        have n9 := hl2.box 9 _ rfl
        have n10 := hl2.box 10 _ rfl
        have r0 := hrz 0 _ rfl
        have r1 := hrz 1 _ rfl
        have r2 := hrz 2 _ rfl
        have s0 := hzz 0 _ rfl
        have s1 := hzz 1 _ rfl
        have s2 := hzz 2 _ rfl
        have s3 := hzz 3 _ rfl
        have f0 := hfz 0
        have f1 := hfz 1
        have f2 := hfz 2
        have f3 := hfz 3
        simp only [Nat.zero_add] at m0 m1 m2 m3 n0 n1 n2 n3 n4 n5 n6 n7 n8 n9 n10 r0 r1 r2 s0 s1 s2 s3
        have HBW_W0 := hid hbw
        clear hl2 hrz hzz hfz hbw hgz
        go_enter Tryz.func20, Tryz.ntmps20
        go_wp2_with fail
        clear hW0
        refine (CV.out _ HBW_W0.out).mono ?_
        rintro e0 w1 ⟨rfl, hb1⟩
        have HT1 := hid hb1
        clear hb1
        clear m0 m1 m2 m3 n0 n1 n2 n3 n4 n5 n6 n7 n8 n9 n10 r0 r1 r2 s0 s1 s2 s3 f0 f1 f2 f3
        obtain ⟨hl2, hrz, hzz, hfz, hbw, hgz⟩ := KB.out w1 HT1.out
        have m0 := hl2.node 0 _ rfl
        have m1 := hl2.node 1 _ rfl
        have m2 := hl2.node 2 _ rfl
        have m3 := hl2.node 3 _ rfl
        have n0 := hl2.box 0 _ rfl
        have n1 := hl2.box 1 _ rfl
        have n2 := hl2.box 2 _ rfl
        have n3 := hl2.box 3 _ rfl
        have n4 := hl2.box 4 _ rfl
        have n5 := hl2.box 5 _ rfl
        have n6 := hl2.box 6 _ rfl
        have n7 := hl2.box 7 _ rfl
        have n8 := hl2.box 8 _ rfl
        have n9 := hl2.box 9 _ rfl
        have n10 := hl2.box 10 _ rfl
        have r0 := hrz 0 _ rfl
        have r1 := hrz 1 _ rfl
        have r2 := hrz 2 _ rfl
        have s0 := hzz 0 _ rfl
        have s1 := hzz 1 _ rfl
        have s2 := hzz 2 _ rfl
        have s3 := hzz 3 _ rfl
        have f0 := hfz 0
        have f1 := hfz 1
        have f2 := hfz 2
        have f3 := hfz 3
        simp only [Nat.zero_add] at m0 m1 m2 m3 n0 n1 n2 n3 n4 n5 n6 n7 n8 n9 n10 r0 r1 r2 s0 s1 s2 s3
        have HBW_w1 := hid hbw
        clear hl2 hrz hzz hfz hbw hgz
        go_wp2_with fail
        refine (CW.out _ HBW_w1.out).mono ?_
        rintro e0 w2 ⟨rfl, hb2⟩
        have HT2 := hid (bCl HT1.out hb2)
        clear hb2
        clear m0 m1 m2 m3 n0 n1 n2 n3 n4 n5 n6 n7 n8 n9 n10 r0 r1 r2 s0 s1 s2 s3 f0 f1 f2 f3
        obtain ⟨hl2, hrz, hzz, hfz, hbw, hgz⟩ := KB.out w2 HT2.out
        have m0 := hl2.node 0 _ rfl
        have m1 := hl2.node 1 _ rfl
        have m2 := hl2.node 2 _ rfl
        have m3 := hl2.node 3 _ rfl
        have n0 := hl2.box 0 _ rfl
        have n1 := hl2.box 1 _ rfl
        have n2 := hl2.box 2 _ rfl
        have n3 := hl2.box 3 _ rfl
        have n4 := hl2.box 4 _ rfl
        have n5 := hl2.box 5 _ rfl
        have n6 := hl2.box 6 _ rfl
        have n7 := hl2.box 7 _ rfl
        have n8 := hl2.box 8 _ rfl
        have n9 := hl2.box 9 _ rfl
        have n10 := hl2.box 10 _ rfl
        have r0 := hrz 0 _ rfl
        have r1 := hrz 1 _ rfl
        have r2 := hrz 2 _ rfl
        have s0 := hzz 0 _ rfl
        have s1 := hzz 1 _ rfl
        have s2 := hzz 2 _ rfl
        have s3 := hzz 3 _ rfl
        have f0 := hfz 0
        have f1 := hfz 1
        have f2 := hfz 2
        have f3 := hfz 3
        simp only [Nat.zero_add] at m0 m1 m2 m3 n0 n1 n2 n3 n4 n5 n6 n7 n8 n9 n10 r0 r1 r2 s0 s1 s2 s3
        have HBW_w2 := hid hbw
        clear hl2 hrz hzz hfz hbw hgz
        go_wp2_with fail
        refine (CR.out _ HBW_w2.out).mono ?_
        rintro e0 w3 ⟨v3, rfl, hs3, hb3⟩
        obtain ⟨A3, c3, rfl⟩ := hs3.form
        have HT3 := hid (bCl HT2.out hb3)
        clear hb3 hs3
        clear m0 m1 m2 m3 n0 n1 n2 n3 n4 n5 n6 n7 n8 n9 n10 r0 r1 r2 s0 s1 s2 s3 f0 f1 f2 f3
        go_upto_region 4 with fail
        obtain ⟨X3, hX3⟩ : ∃ W, w3.alloc (.cells #[.int .i64 (zeroT.kind), .string (zeroT.text), .int .i64 (zeroT.cols), .slice A3 (zeroT.kids.length) c3] 24) = W := ⟨_, rfl⟩
        have hx3 : BoxL X3 w3.heap.size 0 [.int .i64 (zeroT.kind), .string (zeroT.text), .int .i64 (zeroT.cols), .slice A3 (zeroT.kids.length) c3] := by rw [← hX3]; exact BoxL.new _ _ _ _ rfl _ rfl
        have hb3 : Below w3.heap.size w3 X3 := by rw [← hX3]; exact bNew _ _
        have HTX := hid (bCl HT3.out hb3)
        have x3 := hx3 3 _ rfl
        simp only [Nat.zero_add] at x3
        rw [hX3]
        clear hX3 hx3 hb3
        obtain ⟨hl2, hrz, hzz, hfz, hbw, hgz⟩ := KB.out X3 HTX.out
        have m0 := hl2.node 0 _ rfl
        have m1 := hl2.node 1 _ rfl
        have m2 := hl2.node 2 _ rfl
        have m3 := hl2.node 3 _ rfl
        have n0 := hl2.box 0 _ rfl
        have n1 := hl2.box 1 _ rfl
        have n2 := hl2.box 2 _ rfl
        have n3 := hl2.box 3 _ rfl
        have n4 := hl2.box 4 _ rfl
        have n5 := hl2.box 5 _ rfl
        have n6 := hl2.box 6 _ rfl
        have n7 := hl2.box 7 _ rfl
        have n8 := hl2.box 8 _ rfl
        have n9 := hl2.box 9 _ rfl
        have n10 := hl2.box 10 _ rfl
        have r0 := hrz 0 _ rfl
        have r1 := hrz 1 _ rfl
        have r2 := hrz 2 _ rfl
        have s0 := hzz 0 _ rfl
        have s1 := hzz 1 _ rfl
        have s2 := hzz 2 _ rfl
        have s3 := hzz 3 _ rfl
        have f0 := hfz 0
        have f1 := hfz 1
        have f2 := hfz 2
        have f3 := hfz 3
        simp only [Nat.zero_add] at m0 m1 m2 m3 n0 n1 n2 n3 n4 n5 n6 n7 n8 n9 n10 r0 r1 r2 s0 s1 s2 s3
        have HBW_X3 := hid hbw
        clear hl2 hrz hzz hfz hbw hgz
        go_wp2_with fail
        generalize hW : (((X3.setCell _ (.int .i64 0)).setCell _ (.int .i64 0)).setCell _ (.int .i64 0)).setCell _ (.int .i64 0) = WE
        obtain ⟨⟨z0, z1, z2, z3⟩, rz, rb, ro, _⟩ := four s0 s1 s2 s3 _ _ _ _ hW.symm
        have HB' := hid (rb w.heap.size w (by omega) HBW_X3.out)
        clear hW ro rb rz
        refine bodyPost_ret (v := .tuple #[.agg #[.int .i64 0, .int .i64 0, .int .i64 0, .int .i64 0], .int .i64 2]) (by simp [results, Tryz.results20, go_sem, z0, z1, z2, z3]) rfl ?_
        exact ⟨HB'.out, by rw [HR.out]⟩
      | some t0 =>
        have hrr := HRYY.out t0 hrs
        have CX := hid (CXX.out t0 hrs)
        rw [hrr] at CR HRr HRn HRs
        clear CXX HRYY HRNN hrr hrs
        have HLN : Hid (t0.kids.length = t0.kids.length) := rfl
        by_cases h1 : 0 ≤ f
        case neg =>
          have HR : Hid (r = ((0, 0, 0, 0), 2)) := HRr.out (by rw [decide_eq_false h1]; rfl)
          have i1 : decide (f < 0) = true := decide_eq_true (by omega)
          clear HRr HRn HRs CX HPB h1
          obtain ⟨hl2, hrz, hzz, hfz, hbw, hgz⟩ := KB.out W0 (Below.refl _ _)
          have m0 := hl2.node 0 _ rfl
          have m1 := hl2.node 1 _ rfl
          have m2 := hl2.node 2 _ rfl
          have m3 := hl2.node 3 _ rfl
          have n0 := hl2.box 0 _ rfl
          have n1 := hl2.box 1 _ rfl
          have n2 := hl2.box 2 _ rfl
          have n3 := hl2.box 3 _ rfl
          have n4 := hl2.box 4 _ rfl
          have n5 := hl2.box 5 _ rfl
          have n6 := hl2.box 6 _ rfl
          have n7 := hl2.box 7 _ rfl
          have n8 := hl2.box 8 _ rfl
          have n9 := hl2.box 9 _ rfl
          have n10 := hl2.box 10 _ rfl
          have r0 := hrz 0 _ rfl
          have r1 := hrz 1 _ rfl
          have r2 := hrz 2 _ rfl
          have s0 := hzz 0 _ rfl
          have s1 := hzz 1 _ rfl
          have s2 := hzz 2 _ rfl
          have s3 := hzz 3 _ rfl
          have f0 := hfz 0
          have f1 := hfz 1
          have f2 := hfz 2
          have f3 := hfz 3
          simp only [Nat.zero_add] at m0 m1 m2 m3 n0 n1 n2 n3 n4 n5 n6 n7 n8 n9 n10 r0 r1 r2 s0 s1 s2 s3
          have HBW_W0 := hid hbw
          clear hl2 hrz hzz hfz hbw hgz
          go_enter Tryz.func20, Tryz.ntmps20
          go_wp2_with fail
          clear hW0
          refine (CV.out _ HBW_W0.out).mono ?_
          rintro e0 w1 ⟨rfl, hb1⟩
          have HT1 := hid hb1
          clear hb1
          clear m0 m1 m2 m3 n0 n1 n2 n3 n4 n5 n6 n7 n8 n9 n10 r0 r1 r2 s0 s1 s2 s3 f0 f1 f2 f3
          obtain ⟨hl2, hrz, hzz, hfz, hbw, hgz⟩ := KB.out w1 HT1.out
          have m0 := hl2.node 0 _ rfl
          have m1 := hl2.node 1 _ rfl
          have m2 := hl2.node 2 _ rfl
          have m3 := hl2.node 3 _ rfl
          have n0 := hl2.box 0 _ rfl
          have n1 := hl2.box 1 _ rfl
          have n2 := hl2.box 2 _ rfl
          have n3 := hl2.box 3 _ rfl
          have n4 := hl2.box 4 _ rfl
          have n5 := hl2.box 5 _ rfl
          have n6 := hl2.box 6 _ rfl
          have n7 := hl2.box 7 _ rfl
          have n8 := hl2.box 8 _ rfl
          have n9 := hl2.box 9 _ rfl
          have n10 := hl2.box 10 _ rfl
          have r0 := hrz 0 _ rfl
          have r1 := hrz 1 _ rfl
          have r2 := hrz 2 _ rfl
          have s0 := hzz 0 _ rfl
          have s1 := hzz 1 _ rfl
          have s2 := hzz 2 _ rfl
          have s3 := hzz 3 _ rfl
          have f0 := hfz 0
          have f1 := hfz 1
          have f2 := hfz 2
          have f3 := hfz 3
          simp only [Nat.zero_add] at m0 m1 m2 m3 n0 n1 n2 n3 n4 n5 n6 n7 n8 n9 n10 r0 r1 r2 s0 s1 s2 s3
          have HBW_w1 := hid hbw
          clear hl2 hrz hzz hfz hbw hgz
          go_wp2_with fail
          refine (CW.out _ HBW_w1.out).mono ?_
          rintro e0 w2 ⟨rfl, hb2⟩
          have HT2 := hid (bCl HT1.out hb2)
          clear hb2
          clear m0 m1 m2 m3 n0 n1 n2 n3 n4 n5 n6 n7 n8 n9 n10 r0 r1 r2 s0 s1 s2 s3 f0 f1 f2 f3
          obtain ⟨hl2, hrz, hzz, hfz, hbw, hgz⟩ := KB.out w2 HT2.out
          have m0 := hl2.node 0 _ rfl
          have m1 := hl2.node 1 _ rfl
          have m2 := hl2.node 2 _ rfl
          have m3 := hl2.node 3 _ rfl
          have n0 := hl2.box 0 _ rfl
          have n1 := hl2.box 1 _ rfl
          have n2 := hl2.box 2 _ rfl
          have n3 := hl2.box 3 _ rfl
          have n4 := hl2.box 4 _ rfl
          have n5 := hl2.box 5 _ rfl
          have n6 := hl2.box 6 _ rfl
          have n7 := hl2.box 7 _ rfl
          have n8 := hl2.box 8 _ rfl
          have n9 := hl2.box 9 _ rfl
          have n10 := hl2.box 10 _ rfl
          have r0 := hrz 0 _ rfl
          have r1 := hrz 1 _ rfl
          have r2 := hrz 2 _ rfl
          have s0 := hzz 0 _ rfl
          have s1 := hzz 1 _ rfl
          have s2 := hzz 2 _ rfl
          have s3 := hzz 3 _ rfl
          have f0 := hfz 0
          have f1 := hfz 1
          have f2 := hfz 2
          have f3 := hfz 3
          simp only [Nat.zero_add] at m0 m1 m2 m3 n0 n1 n2 n3 n4 n5 n6 n7 n8 n9 n10 r0 r1 r2 s0 s1 s2 s3
          have HBW_w2 := hid hbw
          clear hl2 hrz hzz hfz hbw hgz
          go_wp2_with fail
          refine (CR.out _ HBW_w2.out).mono ?_
          rintro e0 w3 ⟨v3, rfl, hs3, hb3⟩
          obtain ⟨A3, c3, rfl⟩ := hs3.form
          have HT3 := hid (bCl HT2.out hb3)
          clear hb3 hs3
          clear m0 m1 m2 m3 n0 n1 n2 n3 n4 n5 n6 n7 n8 n9 n10 r0 r1 r2 s0 s1 s2 s3 f0 f1 f2 f3
          go_upto_region 4 with fail
          obtain ⟨X3, hX3⟩ : ∃ W, w3.alloc (.cells #[.int .i64 (t0.kind), .string (t0.text), .int .i64 (t0.cols), .slice A3 (t0.kids.length) c3] 24) = W := ⟨_, rfl⟩
          have hx3 : BoxL X3 w3.heap.size 0 [.int .i64 (t0.kind), .string (t0.text), .int .i64 (t0.cols), .slice A3 (t0.kids.length) c3] := by rw [← hX3]; exact BoxL.new _ _ _ _ rfl _ rfl
          have hb3 : Below w3.heap.size w3 X3 := by rw [← hX3]; exact bNew _ _
          have HTX := hid (bCl HT3.out hb3)
          have x3 := hx3 3 _ rfl
          simp only [Nat.zero_add] at x3
          rw [hX3]
          clear hX3 hx3 hb3
          obtain ⟨hl2, hrz, hzz, hfz, hbw, hgz⟩ := KB.out X3 HTX.out
          have m0 := hl2.node 0 _ rfl
          have m1 := hl2.node 1 _ rfl
          have m2 := hl2.node 2 _ rfl
          have m3 := hl2.node 3 _ rfl
          have n0 := hl2.box 0 _ rfl
          have n1 := hl2.box 1 _ rfl
          have n2 := hl2.box 2 _ rfl
          have n3 := hl2.box 3 _ rfl
          have n4 := hl2.box 4 _ rfl
          have n5 := hl2.box 5 _ rfl
          have n6 := hl2.box 6 _ rfl
          have n7 := hl2.box 7 _ rfl
          have n8 := hl2.box 8 _ rfl
          have n9 := hl2.box 9 _ rfl
          have n10 := hl2.box 10 _ rfl
          have r0 := hrz 0 _ rfl
          have r1 := hrz 1 _ rfl
          have r2 := hrz 2 _ rfl
          have s0 := hzz 0 _ rfl
          have s1 := hzz 1 _ rfl
          have s2 := hzz 2 _ rfl
          have s3 := hzz 3 _ rfl
          have f0 := hfz 0
          have f1 := hfz 1
          have f2 := hfz 2
          have f3 := hfz 3
          simp only [Nat.zero_add] at m0 m1 m2 m3 n0 n1 n2 n3 n4 n5 n6 n7 n8 n9 n10 r0 r1 r2 s0 s1 s2 s3
          have HBW_X3 := hid hbw
          clear hl2 hrz hzz hfz hbw hgz
          go_wp2_with fail
          generalize hW : (((X3.setCell _ (.int .i64 0)).setCell _ (.int .i64 0)).setCell _ (.int .i64 0)).setCell _ (.int .i64 0) = WE
          obtain ⟨⟨z0, z1, z2, z3⟩, rz, rb, ro, _⟩ := four s0 s1 s2 s3 _ _ _ _ hW.symm
          have HB' := hid (rb w.heap.size w (by omega) HBW_X3.out)
          clear hW ro rb rz
          refine bodyPost_ret (v := .tuple #[.agg #[.int .i64 0, .int .i64 0, .int .i64 0, .int .i64 0], .int .i64 2]) (by simp [results, Tryz.results20, go_sem, z0, z1, z2, z3]) rfl ?_
          exact ⟨HB'.out, by rw [HR.out]⟩
        case pos =>
          have i1 : decide (f < 0) = false := decide_eq_false (by omega)
          by_cases h2 : f ≤ e
          case neg =>
            have HR : Hid (r = ((0, 0, 0, 0), 2)) := HRr.out (by rw [decide_eq_false h2]; simp)
            have i2 : decide (e < f) = true := decide_eq_true (by omega)
            clear HRr HRn HRs CX HPB h1 h2
            obtain ⟨hl2, hrz, hzz, hfz, hbw, hgz⟩ := KB.out W0 (Below.refl _ _)
            have m0 := hl2.node 0 _ rfl
            have m1 := hl2.node 1 _ rfl
            have m2 := hl2.node 2 _ rfl
            have m3 := hl2.node 3 _ rfl
            have n0 := hl2.box 0 _ rfl
            have n1 := hl2.box 1 _ rfl
            have n2 := hl2.box 2 _ rfl
            have n3 := hl2.box 3 _ rfl
            have n4 := hl2.box 4 _ rfl
            have n5 := hl2.box 5 _ rfl
            have n6 := hl2.box 6 _ rfl
            have n7 := hl2.box 7 _ rfl
            have n8 := hl2.box 8 _ rfl
            have n9 := hl2.box 9 _ rfl
            have n10 := hl2.box 10 _ rfl
            have r0 := hrz 0 _ rfl
            have r1 := hrz 1 _ rfl
            have r2 := hrz 2 _ rfl
            have s0 := hzz 0 _ rfl
            have s1 := hzz 1 _ rfl
            have s2 := hzz 2 _ rfl
            have s3 := hzz 3 _ rfl
            have f0 := hfz 0
            have f1 := hfz 1
            have f2 := hfz 2
            have f3 := hfz 3
            simp only [Nat.zero_add] at m0 m1 m2 m3 n0 n1 n2 n3 n4 n5 n6 n7 n8 n9 n10 r0 r1 r2 s0 s1 s2 s3
            have HBW_W0 := hid hbw
            clear hl2 hrz hzz hfz hbw hgz
            go_enter Tryz.func20, Tryz.ntmps20
            go_wp2_with fail
            clear hW0
            refine (CV.out _ HBW_W0.out).mono ?_
            rintro e0 w1 ⟨rfl, hb1⟩
            have HT1 := hid hb1
            clear hb1
            clear m0 m1 m2 m3 n0 n1 n2 n3 n4 n5 n6 n7 n8 n9 n10 r0 r1 r2 s0 s1 s2 s3 f0 f1 f2 f3
            obtain ⟨hl2, hrz, hzz, hfz, hbw, hgz⟩ := KB.out w1 HT1.out
            have m0 := hl2.node 0 _ rfl
            have m1 := hl2.node 1 _ rfl
            have m2 := hl2.node 2 _ rfl
            have m3 := hl2.node 3 _ rfl
            have n0 := hl2.box 0 _ rfl
            have n1 := hl2.box 1 _ rfl
            have n2 := hl2.box 2 _ rfl
            have n3 := hl2.box 3 _ rfl
            have n4 := hl2.box 4 _ rfl
            have n5 := hl2.box 5 _ rfl
            have n6 := hl2.box 6 _ rfl
            have n7 := hl2.box 7 _ rfl
            have n8 := hl2.box 8 _ rfl
            have n9 := hl2.box 9 _ rfl
            have n10 := hl2.box 10 _ rfl
            have r0 := hrz 0 _ rfl
            have r1 := hrz 1 _ rfl
            have r2 := hrz 2 _ rfl
            have s0 := hzz 0 _ rfl
            have s1 := hzz 1 _ rfl
            have s2 := hzz 2 _ rfl
            have s3 := hzz 3 _ rfl
            have f0 := hfz 0
            have f1 := hfz 1
            have f2 := hfz 2
            have f3 := hfz 3
            simp only [Nat.zero_add] at m0 m1 m2 m3 n0 n1 n2 n3 n4 n5 n6 n7 n8 n9 n10 r0 r1 r2 s0 s1 s2 s3
            have HBW_w1 := hid hbw
            clear hl2 hrz hzz hfz hbw hgz
            go_wp2_with fail
            refine (CW.out _ HBW_w1.out).mono ?_
            rintro e0 w2 ⟨rfl, hb2⟩
            have HT2 := hid (bCl HT1.out hb2)
            clear hb2
            clear m0 m1 m2 m3 n0 n1 n2 n3 n4 n5 n6 n7 n8 n9 n10 r0 r1 r2 s0 s1 s2 s3 f0 f1 f2 f3
            obtain ⟨hl2, hrz, hzz, hfz, hbw, hgz⟩ := KB.out w2 HT2.out
            have m0 := hl2.node 0 _ rfl
            have m1 := hl2.node 1 _ rfl
            have m2 := hl2.node 2 _ rfl
            have m3 := hl2.node 3 _ rfl
            have n0 := hl2.box 0 _ rfl
            have n1 := hl2.box 1 _ rfl
            have n2 := hl2.box 2 _ rfl
            have n3 := hl2.box 3 _ rfl
            have n4 := hl2.box 4 _ rfl
            have n5 := hl2.box 5 _ rfl
            have n6 := hl2.box 6 _ rfl
            have n7 := hl2.box 7 _ rfl
            have n8 := hl2.box 8 _ rfl
            have n9 := hl2.box 9 _ rfl
            have n10 := hl2.box 10 _ rfl
            have r0 := hrz 0 _ rfl
            have r1 := hrz 1 _ rfl
            have r2 := hrz 2 _ rfl
            have s0 := hzz 0 _ rfl
            have s1 := hzz 1 _ rfl
            have s2 := hzz 2 _ rfl
            have s3 := hzz 3 _ rfl
            have f0 := hfz 0
            have f1 := hfz 1
            have f2 := hfz 2
            have f3 := hfz 3
            simp only [Nat.zero_add] at m0 m1 m2 m3 n0 n1 n2 n3 n4 n5 n6 n7 n8 n9 n10 r0 r1 r2 s0 s1 s2 s3
            have HBW_w2 := hid hbw
            clear hl2 hrz hzz hfz hbw hgz
            go_wp2_with fail
            refine (CR.out _ HBW_w2.out).mono ?_
            rintro e0 w3 ⟨v3, rfl, hs3, hb3⟩
            obtain ⟨A3, c3, rfl⟩ := hs3.form
            have HT3 := hid (bCl HT2.out hb3)
            clear hb3 hs3
            clear m0 m1 m2 m3 n0 n1 n2 n3 n4 n5 n6 n7 n8 n9 n10 r0 r1 r2 s0 s1 s2 s3 f0 f1 f2 f3
            go_upto_region 4 with fail
            obtain ⟨X3, hX3⟩ : ∃ W, w3.alloc (.cells #[.int .i64 (t0.kind), .string (t0.text), .int .i64 (t0.cols), .slice A3 (t0.kids.length) c3] 24) = W := ⟨_, rfl⟩
            have hx3 : BoxL X3 w3.heap.size 0 [.int .i64 (t0.kind), .string (t0.text), .int .i64 (t0.cols), .slice A3 (t0.kids.length) c3] := by rw [← hX3]; exact BoxL.new _ _ _ _ rfl _ rfl
            have hb3 : Below w3.heap.size w3 X3 := by rw [← hX3]; exact bNew _ _
            have HTX := hid (bCl HT3.out hb3)
            have x3 := hx3 3 _ rfl
            simp only [Nat.zero_add] at x3
            rw [hX3]
            clear hX3 hx3 hb3
            obtain ⟨hl2, hrz, hzz, hfz, hbw, hgz⟩ := KB.out X3 HTX.out
            have m0 := hl2.node 0 _ rfl
            have m1 := hl2.node 1 _ rfl
            have m2 := hl2.node 2 _ rfl
            have m3 := hl2.node 3 _ rfl
            have n0 := hl2.box 0 _ rfl
            have n1 := hl2.box 1 _ rfl
            have n2 := hl2.box 2 _ rfl
            have n3 := hl2.box 3 _ rfl
            have n4 := hl2.box 4 _ rfl
            have n5 := hl2.box 5 _ rfl
            have n6 := hl2.box 6 _ rfl
            have n7 := hl2.box 7 _ rfl
            have n8 := hl2.box 8 _ rfl
            have n9 := hl2.box 9 _ rfl
            have n10 := hl2.box 10 _ rfl
            have r0 := hrz 0 _ rfl
            have r1 := hrz 1 _ rfl
            have r2 := hrz 2 _ rfl
            have s0 := hzz 0 _ rfl
            have s1 := hzz 1 _ rfl
            have s2 := hzz 2 _ rfl
            have s3 := hzz 3 _ rfl
            have f0 := hfz 0
            have f1 := hfz 1
            have f2 := hfz 2
            have f3 := hfz 3
            simp only [Nat.zero_add] at m0 m1 m2 m3 n0 n1 n2 n3 n4 n5 n6 n7 n8 n9 n10 r0 r1 r2 s0 s1 s2 s3
            have HBW_X3 := hid hbw
            clear hl2 hrz hzz hfz hbw hgz
            go_wp2_with fail
            generalize hW : (((X3.setCell _ (.int .i64 0)).setCell _ (.int .i64 0)).setCell _ (.int .i64 0)).setCell _ (.int .i64 0) = WE
            obtain ⟨⟨z0, z1, z2, z3⟩, rz, rb, ro, _⟩ := four s0 s1 s2 s3 _ _ _ _ hW.symm
            have HB' := hid (rb w.heap.size w (by omega) HBW_X3.out)
            clear hW ro rb rz
            refine bodyPost_ret (v := .tuple #[.agg #[.int .i64 0, .int .i64 0, .int .i64 0, .int .i64 0], .int .i64 2]) (by simp [results, Tryz.results20, go_sem, z0, z1, z2, z3]) rfl ?_
            exact ⟨HB'.out, by rw [HR.out]⟩
          case pos =>
            have i2 : decide (e < f) = false := decide_eq_false (by omega)
            by_cases h3 : e ≤ (t0.kids.length : Int)
            case neg =>
              have HR : Hid (r = ((0, 0, 0, 0), 2)) := HRr.out (by rw [decide_eq_false h3]; simp)
              have i3 : decide ((t0.kids.length : Int) < e) = true := decide_eq_true (by omega)
              clear HRr HRn HRs CX HPB h1 h2 h3
              obtain ⟨hl2, hrz, hzz, hfz, hbw, hgz⟩ := KB.out W0 (Below.refl _ _)
              have m0 := hl2.node 0 _ rfl
              have m1 := hl2.node 1 _ rfl
              have m2 := hl2.node 2 _ rfl
              have m3 := hl2.node 3 _ rfl
              have n0 := hl2.box 0 _ rfl
              have n1 := hl2.box 1 _ rfl
              have n2 := hl2.box 2 _ rfl
              have n3 := hl2.box 3 _ rfl
              have n4 := hl2.box 4 _ rfl
              have n5 := hl2.box 5 _ rfl
              have n6 := hl2.box 6 _ rfl
              have n7 := hl2.box 7 _ rfl
              have n8 := hl2.box 8 _ rfl
              have n9 := hl2.box 9 _ rfl
              have n10 := hl2.box 10 _ rfl
              have r0 := hrz 0 _ rfl
              have r1 := hrz 1 _ rfl
              have r2 := hrz 2 _ rfl
              have s0 := hzz 0 _ rfl
              have s1 := hzz 1 _ rfl
              have s2 := hzz 2 _ rfl
              have s3 := hzz 3 _ rfl
              have f0 := hfz 0
              have f1 := hfz 1
              have f2 := hfz 2
              have f3 := hfz 3
              simp only [Nat.zero_add] at m0 m1 m2 m3 n0 n1 n2 n3 n4 n5 n6 n7 n8 n9 n10 r0 r1 r2 s0 s1 s2 s3
              have HBW_W0 := hid hbw
              clear hl2 hrz hzz hfz hbw hgz
              go_enter Tryz.func20, Tryz.ntmps20
              go_wp2_with fail
              clear hW0
              refine (CV.out _ HBW_W0.out).mono ?_
              rintro e0 w1 ⟨rfl, hb1⟩
              have HT1 := hid hb1
              clear hb1
              clear m0 m1 m2 m3 n0 n1 n2 n3 n4 n5 n6 n7 n8 n9 n10 r0 r1 r2 s0 s1 s2 s3 f0 f1 f2 f3
              obtain ⟨hl2, hrz, hzz, hfz, hbw, hgz⟩ := KB.out w1 HT1.out
              have m0 := hl2.node 0 _ rfl
              have m1 := hl2.node 1 _ rfl
              have m2 := hl2.node 2 _ rfl
              have m3 := hl2.node 3 _ rfl
              have n0 := hl2.box 0 _ rfl
              have n1 := hl2.box 1 _ rfl
              have n2 := hl2.box 2 _ rfl
              have n3 := hl2.box 3 _ rfl
              have n4 := hl2.box 4 _ rfl
              have n5 := hl2.box 5 _ rfl
              have n6 := hl2.box 6 _ rfl
              have n7 := hl2.box 7 _ rfl
              have n8 := hl2.box 8 _ rfl
              have n9 := hl2.box 9 _ rfl
              have n10 := hl2.box 10 _ rfl
              have r0 := hrz 0 _ rfl
              have r1 := hrz 1 _ rfl
              have r2 := hrz 2 _ rfl
              have s0 := hzz 0 _ rfl
              have s1 := hzz 1 _ rfl
              have s2 := hzz 2 _ rfl
              have s3 := hzz 3 _ rfl
              have f0 := hfz 0
              have f1 := hfz 1
              have f2 := hfz 2
              have f3 := hfz 3
              simp only [Nat.zero_add] at m0 m1 m2 m3 n0 n1 n2 n3 n4 n5 n6 n7 n8 n9 n10 r0 r1 r2 s0 s1 s2 s3
              have HBW_w1 := hid hbw
              clear hl2 hrz hzz hfz hbw hgz
              go_wp2_with fail
              refine (CW.out _ HBW_w1.out).mono ?_
              rintro e0 w2 ⟨rfl, hb2⟩
              have HT2 := hid (bCl HT1.out hb2)
              clear hb2
              clear m0 m1 m2 m3 n0 n1 n2 n3 n4 n5 n6 n7 n8 n9 n10 r0 r1 r2 s0 s1 s2 s3 f0 f1 f2 f3
              obtain ⟨hl2, hrz, hzz, hfz, hbw, hgz⟩ := KB.out w2 HT2.out
              have m0 := hl2.node 0 _ rfl
              have m1 := hl2.node 1 _ rfl
              have m2 := hl2.node 2 _ rfl
              have m3 := hl2.node 3 _ rfl
              have n0 := hl2.box 0 _ rfl
              have n1 := hl2.box 1 _ rfl
              have n2 := hl2.box 2 _ rfl
              have n3 := hl2.box 3 _ rfl
              have n4 := hl2.box 4 _ rfl
              have n5 := hl2.box 5 _ rfl
              have n6 := hl2.box 6 _ rfl
              have n7 := hl2.box 7 _ rfl
              have n8 := hl2.box 8 _ rfl
              have n9 := hl2.box 9 _ rfl
              have n10 := hl2.box 10 _ rfl
              have r0 := hrz 0 _ rfl
              have r1 := hrz 1 _ rfl
              have r2 := hrz 2 _ rfl
              have s0 := hzz 0 _ rfl
              have s1 := hzz 1 _ rfl
              have s2 := hzz 2 _ rfl
              have s3 := hzz 3 _ rfl
              have f0 := hfz 0
              have f1 := hfz 1
              have f2 := hfz 2
              have f3 := hfz 3
              simp only [Nat.zero_add] at m0 m1 m2 m3 n0 n1 n2 n3 n4 n5 n6 n7 n8 n9 n10 r0 r1 r2 s0 s1 s2 s3
              have HBW_w2 := hid hbw
              clear hl2 hrz hzz hfz hbw hgz
              go_wp2_with fail
              refine (CR.out _ HBW_w2.out).mono ?_
              rintro e0 w3 ⟨v3, rfl, hs3, hb3⟩
              obtain ⟨A3, c3, rfl⟩ := hs3.form
              have HT3 := hid (bCl HT2.out hb3)
              clear hb3 hs3
              clear m0 m1 m2 m3 n0 n1 n2 n3 n4 n5 n6 n7 n8 n9 n10 r0 r1 r2 s0 s1 s2 s3 f0 f1 f2 f3
              go_upto_region 4 with fail
              obtain ⟨X3, hX3⟩ : ∃ W, w3.alloc (.cells #[.int .i64 (t0.kind), .string (t0.text), .int .i64 (t0.cols), .slice A3 (t0.kids.length) c3] 24) = W := ⟨_, rfl⟩
              have hx3 : BoxL X3 w3.heap.size 0 [.int .i64 (t0.kind), .string (t0.text), .int .i64 (t0.cols), .slice A3 (t0.kids.length) c3] := by rw [← hX3]; exact BoxL.new _ _ _ _ rfl _ rfl
              have hb3 : Below w3.heap.size w3 X3 := by rw [← hX3]; exact bNew _ _
              have HTX := hid (bCl HT3.out hb3)
              have x3 := hx3 3 _ rfl
              simp only [Nat.zero_add] at x3
              rw [hX3]
              clear hX3 hx3 hb3
              obtain ⟨hl2, hrz, hzz, hfz, hbw, hgz⟩ := KB.out X3 HTX.out
              have m0 := hl2.node 0 _ rfl
              have m1 := hl2.node 1 _ rfl
              have m2 := hl2.node 2 _ rfl
              have m3 := hl2.node 3 _ rfl
              have n0 := hl2.box 0 _ rfl
              have n1 := hl2.box 1 _ rfl
              have n2 := hl2.box 2 _ rfl
              have n3 := hl2.box 3 _ rfl
              have n4 := hl2.box 4 _ rfl
              have n5 := hl2.box 5 _ rfl
              have n6 := hl2.box 6 _ rfl
              have n7 := hl2.box 7 _ rfl
              have n8 := hl2.box 8 _ rfl
              have n9 := hl2.box 9 _ rfl
              have n10 := hl2.box 10 _ rfl
              have r0 := hrz 0 _ rfl
              have r1 := hrz 1 _ rfl
              have r2 := hrz 2 _ rfl
              have s0 := hzz 0 _ rfl
              have s1 := hzz 1 _ rfl
              have s2 := hzz 2 _ rfl
              have s3 := hzz 3 _ rfl
              have f0 := hfz 0
              have f1 := hfz 1
              have f2 := hfz 2
              have f3 := hfz 3
              simp only [Nat.zero_add] at m0 m1 m2 m3 n0 n1 n2 n3 n4 n5 n6 n7 n8 n9 n10 r0 r1 r2 s0 s1 s2 s3
              have HBW_X3 := hid hbw
              clear hl2 hrz hzz hfz hbw hgz
              go_wp2_with fail
              generalize hW : (((X3.setCell _ (.int .i64 0)).setCell _ (.int .i64 0)).setCell _ (.int .i64 0)).setCell _ (.int .i64 0) = WE
              obtain ⟨⟨z0, z1, z2, z3⟩, rz, rb, ro, _⟩ := four s0 s1 s2 s3 _ _ _ _ hW.symm
              have HB' := hid (rb w.heap.size w (by omega) HBW_X3.out)
              clear hW ro rb rz
              refine bodyPost_ret (v := .tuple #[.agg #[.int .i64 0, .int .i64 0, .int .i64 0, .int .i64 0], .int .i64 2]) (by simp [results, Tryz.results20, go_sem, z0, z1, z2, z3]) rfl ?_
              exact ⟨HB'.out, by rw [HR.out]⟩
            case pos =>
              have i3 : decide ((t0.kids.length : Int) < e) = false := decide_eq_false (by omega)
              have hgd : (decide (((t0, (0 : Int)) : Tree × Int).2 = 0) && (decide (0 ≤ f) && (decide (f ≤ e) && decide (e ≤ (((t0, (0 : Int)) : Tree × Int).1.kids.length : Int))))) = true := by simp only [decide_eq_true h1, decide_eq_true h2, decide_eq_true h3]; rfl
              have CXf : Hid (∀ W, Below w.heap.size w W → Calls Tryz.prog 43 #[nodeV t A cap, boxV b Ak As ck cs, .slice Aq q.length cq, .int .i64 f] W (PlcRes W (placeS t b q f))) := fun W hW => CX.out W f hW (by omega)
              have CXe : Hid (∀ W, Below w.heap.size w W → Calls Tryz.prog 43 #[nodeV t A cap, boxV b Ak As ck cs, .slice Aq q.length cq, .int .i64 e] W (PlcRes W (placeS t b q e))) := fun W hW => CX.out W e hW (by omega)
              obtain ⟨g1, g2⟩ | ⟨d, d', g1, g2⟩ := HPB.out
              · have HR : Hid (r = ((0, 0, 0, 0), 8)) := HRn.out hgd g1
                rw [g1] at CXf
                rw [g2] at CXe
                clear HRr HRn HRs CX HPB h1 h2 h3 g1 g2 hgd
                obtain ⟨hl2, hrz, hzz, hfz, hbw, hgz⟩ := KB.out W0 (Below.refl _ _)
                have m0 := hl2.node 0 _ rfl
                have m1 := hl2.node 1 _ rfl
                have m2 := hl2.node 2 _ rfl
                have m3 := hl2.node 3 _ rfl
                have n0 := hl2.box 0 _ rfl
                have n1 := hl2.box 1 _ rfl
                have n2 := hl2.box 2 _ rfl
                have n3 := hl2.box 3 _ rfl
                have n4 := hl2.box 4 _ rfl
                have n5 := hl2.box 5 _ rfl
                have n6 := hl2.box 6 _ rfl
                have n7 := hl2.box 7 _ rfl
                have n8 := hl2.box 8 _ rfl
                have n9 := hl2.box 9 _ rfl
                have n10 := hl2.box 10 _ rfl
                have r0 := hrz 0 _ rfl
                have r1 := hrz 1 _ rfl
                have r2 := hrz 2 _ rfl
                have s0 := hzz 0 _ rfl
                have s1 := hzz 1 _ rfl
                have s2 := hzz 2 _ rfl
                have s3 := hzz 3 _ rfl
                have f0 := hfz 0
                have f1 := hfz 1
                have f2 := hfz 2
                have f3 := hfz 3
                simp only [Nat.zero_add] at m0 m1 m2 m3 n0 n1 n2 n3 n4 n5 n6 n7 n8 n9 n10 r0 r1 r2 s0 s1 s2 s3
                have HBW_W0 := hid hbw
                clear hl2 hrz hzz hfz hbw hgz
                go_enter Tryz.func20, Tryz.ntmps20
                go_wp2_with fail
                clear hW0
                refine (CV.out _ HBW_W0.out).mono ?_
                rintro e0 w1 ⟨rfl, hb1⟩
                have HT1 := hid hb1
                clear hb1
                clear m0 m1 m2 m3 n0 n1 n2 n3 n4 n5 n6 n7 n8 n9 n10 r0 r1 r2 s0 s1 s2 s3 f0 f1 f2 f3
                obtain ⟨hl2, hrz, hzz, hfz, hbw, hgz⟩ := KB.out w1 HT1.out
                have m0 := hl2.node 0 _ rfl
                have m1 := hl2.node 1 _ rfl
                have m2 := hl2.node 2 _ rfl
                have m3 := hl2.node 3 _ rfl
                have n0 := hl2.box 0 _ rfl
                have n1 := hl2.box 1 _ rfl
                have n2 := hl2.box 2 _ rfl
                have n3 := hl2.box 3 _ rfl
                have n4 := hl2.box 4 _ rfl
                have n5 := hl2.box 5 _ rfl
                have n6 := hl2.box 6 _ rfl
                have n7 := hl2.box 7 _ rfl
                have n8 := hl2.box 8 _ rfl
                have n9 := hl2.box 9 _ rfl
                have n10 := hl2.box 10 _ rfl
                have r0 := hrz 0 _ rfl
                have r1 := hrz 1 _ rfl
                have r2 := hrz 2 _ rfl
                have s0 := hzz 0 _ rfl
                have s1 := hzz 1 _ rfl
                have s2 := hzz 2 _ rfl
                have s3 := hzz 3 _ rfl
                have f0 := hfz 0
                have f1 := hfz 1
                have f2 := hfz 2
                have f3 := hfz 3
                simp only [Nat.zero_add] at m0 m1 m2 m3 n0 n1 n2 n3 n4 n5 n6 n7 n8 n9 n10 r0 r1 r2 s0 s1 s2 s3
                have HBW_w1 := hid hbw
                clear hl2 hrz hzz hfz hbw hgz
                go_wp2_with fail
                refine (CW.out _ HBW_w1.out).mono ?_
                rintro e0 w2 ⟨rfl, hb2⟩
                have HT2 := hid (bCl HT1.out hb2)
                clear hb2
                clear m0 m1 m2 m3 n0 n1 n2 n3 n4 n5 n6 n7 n8 n9 n10 r0 r1 r2 s0 s1 s2 s3 f0 f1 f2 f3
                obtain ⟨hl2, hrz, hzz, hfz, hbw, hgz⟩ := KB.out w2 HT2.out
                have m0 := hl2.node 0 _ rfl
                have m1 := hl2.node 1 _ rfl
                have m2 := hl2.node 2 _ rfl
                have m3 := hl2.node 3 _ rfl
                have n0 := hl2.box 0 _ rfl
                have n1 := hl2.box 1 _ rfl
                have n2 := hl2.box 2 _ rfl
                have n3 := hl2.box 3 _ rfl
                have n4 := hl2.box 4 _ rfl
                have n5 := hl2.box 5 _ rfl
                have n6 := hl2.box 6 _ rfl
                have n7 := hl2.box 7 _ rfl
                have n8 := hl2.box 8 _ rfl
                have n9 := hl2.box 9 _ rfl
                have n10 := hl2.box 10 _ rfl
                have r0 := hrz 0 _ rfl
                have r1 := hrz 1 _ rfl
                have r2 := hrz 2 _ rfl
                have s0 := hzz 0 _ rfl
                have s1 := hzz 1 _ rfl
                have s2 := hzz 2 _ rfl
                have s3 := hzz 3 _ rfl
                have f0 := hfz 0
                have f1 := hfz 1
                have f2 := hfz 2
                have f3 := hfz 3
                simp only [Nat.zero_add] at m0 m1 m2 m3 n0 n1 n2 n3 n4 n5 n6 n7 n8 n9 n10 r0 r1 r2 s0 s1 s2 s3
                have HBW_w2 := hid hbw
                clear hl2 hrz hzz hfz hbw hgz
                go_wp2_with fail
                refine (CR.out _ HBW_w2.out).mono ?_
                rintro e0 w3 ⟨v3, rfl, hs3, hb3⟩
                obtain ⟨A3, c3, rfl⟩ := hs3.form
                have HT3 := hid (bCl HT2.out hb3)
                clear hb3 hs3
                clear m0 m1 m2 m3 n0 n1 n2 n3 n4 n5 n6 n7 n8 n9 n10 r0 r1 r2 s0 s1 s2 s3 f0 f1 f2 f3
                go_upto_region 4 with fail
                obtain ⟨X3, hX3⟩ : ∃ W, w3.alloc (.cells #[.int .i64 (t0.kind), .string (t0.text), .int .i64 (t0.cols), .slice A3 (t0.kids.length) c3] 24) = W := ⟨_, rfl⟩
                have hx3 : BoxL X3 w3.heap.size 0 [.int .i64 (t0.kind), .string (t0.text), .int .i64 (t0.cols), .slice A3 (t0.kids.length) c3] := by rw [← hX3]; exact BoxL.new _ _ _ _ rfl _ rfl
                have hb3 : Below w3.heap.size w3 X3 := by rw [← hX3]; exact bNew _ _
                have HTX := hid (bCl HT3.out hb3)
                have x3 := hx3 3 _ rfl
                simp only [Nat.zero_add] at x3
                rw [hX3]
                clear hX3 hx3 hb3
                obtain ⟨hl2, hrz, hzz, hfz, hbw, hgz⟩ := KB.out X3 HTX.out
                have m0 := hl2.node 0 _ rfl
                have m1 := hl2.node 1 _ rfl
                have m2 := hl2.node 2 _ rfl
                have m3 := hl2.node 3 _ rfl
                have n0 := hl2.box 0 _ rfl
                have n1 := hl2.box 1 _ rfl
                have n2 := hl2.box 2 _ rfl
                have n3 := hl2.box 3 _ rfl
                have n4 := hl2.box 4 _ rfl
                have n5 := hl2.box 5 _ rfl
                have n6 := hl2.box 6 _ rfl
                have n7 := hl2.box 7 _ rfl
                have n8 := hl2.box 8 _ rfl
                have n9 := hl2.box 9 _ rfl
                have n10 := hl2.box 10 _ rfl
                have r0 := hrz 0 _ rfl
                have r1 := hrz 1 _ rfl
                have r2 := hrz 2 _ rfl
                have s0 := hzz 0 _ rfl
                have s1 := hzz 1 _ rfl
                have s2 := hzz 2 _ rfl
                have s3 := hzz 3 _ rfl
                have f0 := hfz 0
                have f1 := hfz 1
                have f2 := hfz 2
                have f3 := hfz 3
                simp only [Nat.zero_add] at m0 m1 m2 m3 n0 n1 n2 n3 n4 n5 n6 n7 n8 n9 n10 r0 r1 r2 s0 s1 s2 s3
                have HBW_X3 := hid hbw
                clear hl2 hrz hzz hfz hbw hgz
                go_wp2_with fail
                refine (CXf.out _ HBW_X3.out).mono ?_
                rintro e0 w4 ⟨hb4, ⟨_, rfl⟩ | ⟨d, v, h, _⟩⟩
                case inr => cases h
                have HB4 := hid hb4
                clear hb4
                clear m0 m1 m2 m3 n0 n1 n2 n3 n4 n5 n6 n7 n8 n9 n10 r0 r1 r2 s0 s1 s2 s3 f0 f1 f2 f3
                clear x3
                go_upto_region 7 with fail
                obtain ⟨X4, hX4⟩ : ∃ W, w4.alloc (.cells #[.slice none 0 0, .int .i64 0, .int .i64 0, .int .i64 0] 36) = W := ⟨_, rfl⟩
                have hb4' : Below w4.heap.size w4 X4 := by rw [← hX4]; exact bNew _ _
                have HT4 := hid (bCl (bCl HTX.out HB4.out) hb4')
                have HX4 : Hid (BoxL X4 w4.heap.size 0 [.slice none 0 0, .int .i64 0, .int .i64 0, .int .i64 0] ∧ w4.heap.size < X4.heap.size) := by rw [← hX4]; exact ⟨BoxL.new _ _ _ _ rfl _ rfl, by simp⟩
                rw [hX4]
                clear hX4 hb4'
                obtain ⟨hl2, hrz, hzz, hfz, hbw, hgz⟩ := KB.out X4 HT4.out
                have m0 := hl2.node 0 _ rfl
                have m1 := hl2.node 1 _ rfl
                have m2 := hl2.node 2 _ rfl
                have m3 := hl2.node 3 _ rfl
                have n0 := hl2.box 0 _ rfl
                have n1 := hl2.box 1 _ rfl
                have n2 := hl2.box 2 _ rfl
                have n3 := hl2.box 3 _ rfl
                have n4 := hl2.box 4 _ rfl
                have n5 := hl2.box 5 _ rfl
                have n6 := hl2.box 6 _ rfl
                have n7 := hl2.box 7 _ rfl
                have n8 := hl2.box 8 _ rfl
                have n9 := hl2.box 9 _ rfl
                have n10 := hl2.box 10 _ rfl
                have r0 := hrz 0 _ rfl
                have r1 := hrz 1 _ rfl
                have r2 := hrz 2 _ rfl
                have s0 := hzz 0 _ rfl
                have s1 := hzz 1 _ rfl
                have s2 := hzz 2 _ rfl
                have s3 := hzz 3 _ rfl
                have f0 := hfz 0
                have f1 := hfz 1
                have f2 := hfz 2
                have f3 := hfz 3
                simp only [Nat.zero_add] at m0 m1 m2 m3 n0 n1 n2 n3 n4 n5 n6 n7 n8 n9 n10 r0 r1 r2 s0 s1 s2 s3
                have HBW_X4 := hid hbw
                clear hl2 hrz hzz hfz hbw hgz
                go_wp2_with fail
                refine (CXe.out _ HBW_X4.out).mono ?_
                rintro e0 w5 ⟨hb5, ⟨_, rfl⟩ | ⟨d, v, h, _⟩⟩
                case inr => cases h
                have HB5 := hid hb5
                clear hb5
                clear m0 m1 m2 m3 n0 n1 n2 n3 n4 n5 n6 n7 n8 n9 n10 r0 r1 r2 s0 s1 s2 s3 f0 f1 f2 f3
                go_upto_region 8 with fail
                obtain ⟨X5, hX5⟩ : ∃ W, w5.alloc (.cells #[.slice none 0 0, .int .i64 0, .int .i64 0, .int .i64 0] 36) = W := ⟨_, rfl⟩
                have hb5' : Below w5.heap.size w5 X5 := by rw [← hX5]; exact bNew _ _
                have HT5 := hid (bCl (bCl HT4.out HB5.out) hb5')
                have HX45 : Hid (Below X4.heap.size X4 X5) := bCl HB5.out hb5'
                have HX5 : Hid (BoxL X5 w5.heap.size 0 [.slice none 0 0, .int .i64 0, .int .i64 0, .int .i64 0]) := by rw [← hX5]; exact BoxL.new _ _ _ _ rfl _ rfl
                rw [hX5]
                clear hX5 hb5'
                obtain ⟨hl2, hrz, hzz, hfz, hbw, hgz⟩ := KB.out X5 HT5.out
                have m0 := hl2.node 0 _ rfl
                have m1 := hl2.node 1 _ rfl
                have m2 := hl2.node 2 _ rfl
                have m3 := hl2.node 3 _ rfl
                have n0 := hl2.box 0 _ rfl
                have n1 := hl2.box 1 _ rfl
                have n2 := hl2.box 2 _ rfl
                have n3 := hl2.box 3 _ rfl
                have n4 := hl2.box 4 _ rfl
                have n5 := hl2.box 5 _ rfl
                have n6 := hl2.box 6 _ rfl
                have n7 := hl2.box 7 _ rfl
                have n8 := hl2.box 8 _ rfl
                have n9 := hl2.box 9 _ rfl
                have n10 := hl2.box 10 _ rfl
                have r0 := hrz 0 _ rfl
                have r1 := hrz 1 _ rfl
                have r2 := hrz 2 _ rfl
                have s0 := hzz 0 _ rfl
                have s1 := hzz 1 _ rfl
                have s2 := hzz 2 _ rfl
                have s3 := hzz 3 _ rfl
                have f0 := hfz 0
                have f1 := hfz 1
                have f2 := hfz 2
                have f3 := hfz 3
                simp only [Nat.zero_add] at m0 m1 m2 m3 n0 n1 n2 n3 n4 n5 n6 n7 n8 n9 n10 r0 r1 r2 s0 s1 s2 s3
                have HBW_X5 := hid hbw
                clear hl2 hrz hzz hfz hbw hgz
                go_wp2_with fail
                generalize hW : (((X5.setCell _ (.int .i64 0)).setCell _ (.int .i64 0)).setCell _ (.int .i64 0)).setCell _ (.int .i64 0) = WE
                obtain ⟨⟨z0, z1, z2, z3⟩, rz, rb, ro, _⟩ := four s0 s1 s2 s3 _ _ _ _ hW.symm
                have HB' := hid (rb w.heap.size w (by omega) HBW_X5.out)
                clear hW ro rb rz
                refine bodyPost_ret (v := .tuple #[.agg #[.int .i64 0, .int .i64 0, .int .i64 0, .int .i64 0], .int .i64 8]) (by simp [results, Tryz.results20, go_sem, z0, z1, z2, z3]) rfl ?_
                exact ⟨HB'.out, by rw [HR.out]⟩
              · have HR : Hid (r = ((d.x, d'.x, d.top, d.bottom), 0)) := HRs.out hgd d d' g1 g2
                rw [g1] at CXf
                rw [g2] at CXe
                clear HRr HRn HRs CX HPB h1 h2 h3 g1 g2 hgd
                obtain ⟨hl2, hrz, hzz, hfz, hbw, hgz⟩ := KB.out W0 (Below.refl _ _)
                have m0 := hl2.node 0 _ rfl
                have m1 := hl2.node 1 _ rfl
                have m2 := hl2.node 2 _ rfl
                have m3 := hl2.node 3 _ rfl
                have n0 := hl2.box 0 _ rfl
                have n1 := hl2.box 1 _ rfl
                have n2 := hl2.box 2 _ rfl
                have n3 := hl2.box 3 _ rfl
                have n4 := hl2.box 4 _ rfl
                have n5 := hl2.box 5 _ rfl
                have n6 := hl2.box 6 _ rfl
                have n7 := hl2.box 7 _ rfl
                have n8 := hl2.box 8 _ rfl
                have n9 := hl2.box 9 _ rfl
                have n10 := hl2.box 10 _ rfl
                have r0 := hrz 0 _ rfl
                have r1 := hrz 1 _ rfl
                have r2 := hrz 2 _ rfl
                have s0 := hzz 0 _ rfl
                have s1 := hzz 1 _ rfl
                have s2 := hzz 2 _ rfl
                have s3 := hzz 3 _ rfl
                have f0 := hfz 0
                have f1 := hfz 1
                have f2 := hfz 2
                have f3 := hfz 3
                simp only [Nat.zero_add] at m0 m1 m2 m3 n0 n1 n2 n3 n4 n5 n6 n7 n8 n9 n10 r0 r1 r2 s0 s1 s2 s3
                have HBW_W0 := hid hbw
                clear hl2 hrz hzz hfz hbw hgz
                go_enter Tryz.func20, Tryz.ntmps20
                go_wp2_with fail
                clear hW0
                refine (CV.out _ HBW_W0.out).mono ?_
                rintro e0 w1 ⟨rfl, hb1⟩
                have HT1 := hid hb1
                clear hb1
                clear m0 m1 m2 m3 n0 n1 n2 n3 n4 n5 n6 n7 n8 n9 n10 r0 r1 r2 s0 s1 s2 s3 f0 f1 f2 f3
                obtain ⟨hl2, hrz, hzz, hfz, hbw, hgz⟩ := KB.out w1 HT1.out
                have m0 := hl2.node 0 _ rfl
                have m1 := hl2.node 1 _ rfl
                have m2 := hl2.node 2 _ rfl
                have m3 := hl2.node 3 _ rfl
                have n0 := hl2.box 0 _ rfl
                have n1 := hl2.box 1 _ rfl
                have n2 := hl2.box 2 _ rfl
                have n3 := hl2.box 3 _ rfl
                have n4 := hl2.box 4 _ rfl
                have n5 := hl2.box 5 _ rfl
                have n6 := hl2.box 6 _ rfl
                have n7 := hl2.box 7 _ rfl
                have n8 := hl2.box 8 _ rfl
                have n9 := hl2.box 9 _ rfl
                have n10 := hl2.box 10 _ rfl
                have r0 := hrz 0 _ rfl
                have r1 := hrz 1 _ rfl
                have r2 := hrz 2 _ rfl
                have s0 := hzz 0 _ rfl
                have s1 := hzz 1 _ rfl
                have s2 := hzz 2 _ rfl
                have s3 := hzz 3 _ rfl
                have f0 := hfz 0
                have f1 := hfz 1
                have f2 := hfz 2
                have f3 := hfz 3
                simp only [Nat.zero_add] at m0 m1 m2 m3 n0 n1 n2 n3 n4 n5 n6 n7 n8 n9 n10 r0 r1 r2 s0 s1 s2 s3
                have HBW_w1 := hid hbw
                clear hl2 hrz hzz hfz hbw hgz
                go_wp2_with fail
                refine (CW.out _ HBW_w1.out).mono ?_
                rintro e0 w2 ⟨rfl, hb2⟩
                have HT2 := hid (bCl HT1.out hb2)
                clear hb2
                clear m0 m1 m2 m3 n0 n1 n2 n3 n4 n5 n6 n7 n8 n9 n10 r0 r1 r2 s0 s1 s2 s3 f0 f1 f2 f3
                obtain ⟨hl2, hrz, hzz, hfz, hbw, hgz⟩ := KB.out w2 HT2.out
                have m0 := hl2.node 0 _ rfl
                have m1 := hl2.node 1 _ rfl
                have m2 := hl2.node 2 _ rfl
                have m3 := hl2.node 3 _ rfl
                have n0 := hl2.box 0 _ rfl
                have n1 := hl2.box 1 _ rfl
                have n2 := hl2.box 2 _ rfl
                have n3 := hl2.box 3 _ rfl
                have n4 := hl2.box 4 _ rfl
                have n5 := hl2.box 5 _ rfl
                have n6 := hl2.box 6 _ rfl
                have n7 := hl2.box 7 _ rfl
                have n8 := hl2.box 8 _ rfl
                have n9 := hl2.box 9 _ rfl
                have n10 := hl2.box 10 _ rfl
                have r0 := hrz 0 _ rfl
                have r1 := hrz 1 _ rfl
                have r2 := hrz 2 _ rfl
                have s0 := hzz 0 _ rfl
                have s1 := hzz 1 _ rfl
                have s2 := hzz 2 _ rfl
                have s3 := hzz 3 _ rfl
                have f0 := hfz 0
                have f1 := hfz 1
                have f2 := hfz 2
                have f3 := hfz 3
                simp only [Nat.zero_add] at m0 m1 m2 m3 n0 n1 n2 n3 n4 n5 n6 n7 n8 n9 n10 r0 r1 r2 s0 s1 s2 s3
                have HBW_w2 := hid hbw
                clear hl2 hrz hzz hfz hbw hgz
                go_wp2_with fail
                refine (CR.out _ HBW_w2.out).mono ?_
                rintro e0 w3 ⟨v3, rfl, hs3, hb3⟩
                obtain ⟨A3, c3, rfl⟩ := hs3.form
                have HT3 := hid (bCl HT2.out hb3)
                clear hb3 hs3
                clear m0 m1 m2 m3 n0 n1 n2 n3 n4 n5 n6 n7 n8 n9 n10 r0 r1 r2 s0 s1 s2 s3 f0 f1 f2 f3
                go_upto_region 4 with fail
                obtain ⟨X3, hX3⟩ : ∃ W, w3.alloc (.cells #[.int .i64 (t0.kind), .string (t0.text), .int .i64 (t0.cols), .slice A3 (t0.kids.length) c3] 24) = W := ⟨_, rfl⟩
                have hx3 : BoxL X3 w3.heap.size 0 [.int .i64 (t0.kind), .string (t0.text), .int .i64 (t0.cols), .slice A3 (t0.kids.length) c3] := by rw [← hX3]; exact BoxL.new _ _ _ _ rfl _ rfl
                have hb3 : Below w3.heap.size w3 X3 := by rw [← hX3]; exact bNew _ _
                have HTX := hid (bCl HT3.out hb3)
                have x3 := hx3 3 _ rfl
                simp only [Nat.zero_add] at x3
                rw [hX3]
                clear hX3 hx3 hb3
                obtain ⟨hl2, hrz, hzz, hfz, hbw, hgz⟩ := KB.out X3 HTX.out
                have m0 := hl2.node 0 _ rfl
                have m1 := hl2.node 1 _ rfl
                have m2 := hl2.node 2 _ rfl
                have m3 := hl2.node 3 _ rfl
                have n0 := hl2.box 0 _ rfl
                have n1 := hl2.box 1 _ rfl
                have n2 := hl2.box 2 _ rfl
                have n3 := hl2.box 3 _ rfl
                have n4 := hl2.box 4 _ rfl
                have n5 := hl2.box 5 _ rfl
                have n6 := hl2.box 6 _ rfl
                have n7 := hl2.box 7 _ rfl
                have n8 := hl2.box 8 _ rfl
                have n9 := hl2.box 9 _ rfl
                have n10 := hl2.box 10 _ rfl
                have r0 := hrz 0 _ rfl
                have r1 := hrz 1 _ rfl
                have r2 := hrz 2 _ rfl
                have s0 := hzz 0 _ rfl
                have s1 := hzz 1 _ rfl
                have s2 := hzz 2 _ rfl
                have s3 := hzz 3 _ rfl
                have f0 := hfz 0
                have f1 := hfz 1
                have f2 := hfz 2
                have f3 := hfz 3
                simp only [Nat.zero_add] at m0 m1 m2 m3 n0 n1 n2 n3 n4 n5 n6 n7 n8 n9 n10 r0 r1 r2 s0 s1 s2 s3
                have HBW_X3 := hid hbw
                clear hl2 hrz hzz hfz hbw hgz
                go_wp2_with fail
                refine (CXf.out _ HBW_X3.out).mono ?_
                rintro e0 w4 ⟨hb4, ⟨h, _⟩ | ⟨d1, v1, h, rfl, hi4⟩⟩
                case inl => cases h
                cases h
                obtain ⟨A4, c4, rfl⟩ := hi4.form
                have HB4 := hid hb4
                clear hb4 hi4
                clear m0 m1 m2 m3 n0 n1 n2 n3 n4 n5 n6 n7 n8 n9 n10 r0 r1 r2 s0 s1 s2 s3 f0 f1 f2 f3
                clear x3
                go_upto_region 7 with fail
                obtain ⟨X4, hX4⟩ : ∃ W, w4.alloc (.cells #[.slice A4 d.pos.length c4, .int .i64 d.x, .int .i64 d.top, .int .i64 d.bottom] 36) = W := ⟨_, rfl⟩
                have hb4' : Below w4.heap.size w4 X4 := by rw [← hX4]; exact bNew _ _
                have HT4 := hid (bCl (bCl HTX.out HB4.out) hb4')
                have HX4 : Hid (BoxL X4 w4.heap.size 0 [.slice A4 d.pos.length c4, .int .i64 d.x, .int .i64 d.top, .int .i64 d.bottom] ∧ w4.heap.size < X4.heap.size) := by rw [← hX4]; exact ⟨BoxL.new _ _ _ _ rfl _ rfl, by simp⟩
                rw [hX4]
                clear hX4 hb4'
                obtain ⟨hl2, hrz, hzz, hfz, hbw, hgz⟩ := KB.out X4 HT4.out
                have m0 := hl2.node 0 _ rfl
                have m1 := hl2.node 1 _ rfl
                have m2 := hl2.node 2 _ rfl
                have m3 := hl2.node 3 _ rfl
                have n0 := hl2.box 0 _ rfl
                have n1 := hl2.box 1 _ rfl
                have n2 := hl2.box 2 _ rfl
                have n3 := hl2.box 3 _ rfl
                have n4 := hl2.box 4 _ rfl
                have n5 := hl2.box 5 _ rfl
                have n6 := hl2.box 6 _ rfl
                have n7 := hl2.box 7 _ rfl
                have n8 := hl2.box 8 _ rfl
                have n9 := hl2.box 9 _ rfl
                have n10 := hl2.box 10 _ rfl
                have r0 := hrz 0 _ rfl
                have r1 := hrz 1 _ rfl
                have r2 := hrz 2 _ rfl
                have s0 := hzz 0 _ rfl
                have s1 := hzz 1 _ rfl
                have s2 := hzz 2 _ rfl
                have s3 := hzz 3 _ rfl
                have f0 := hfz 0
                have f1 := hfz 1
                have f2 := hfz 2
                have f3 := hfz 3
                simp only [Nat.zero_add] at m0 m1 m2 m3 n0 n1 n2 n3 n4 n5 n6 n7 n8 n9 n10 r0 r1 r2 s0 s1 s2 s3
                have HBW_X4 := hid hbw
                clear hl2 hrz hzz hfz hbw hgz
                go_wp2_with fail
                refine (CXe.out _ HBW_X4.out).mono ?_
                rintro e0 w5 ⟨hb5, ⟨h, _⟩ | ⟨d1, v1, h, rfl, hi5⟩⟩
                case inl => cases h
                cases h
                obtain ⟨A5, c5, rfl⟩ := hi5.form
                have HB5 := hid hb5
                clear hb5 hi5
                clear m0 m1 m2 m3 n0 n1 n2 n3 n4 n5 n6 n7 n8 n9 n10 r0 r1 r2 s0 s1 s2 s3 f0 f1 f2 f3
                go_upto_region 8 with fail
                obtain ⟨X5, hX5⟩ : ∃ W, w5.alloc (.cells #[.slice A5 d'.pos.length c5, .int .i64 d'.x, .int .i64 d'.top, .int .i64 d'.bottom] 36) = W := ⟨_, rfl⟩
                have hb5' : Below w5.heap.size w5 X5 := by rw [← hX5]; exact bNew _ _
                have HT5 := hid (bCl (bCl HT4.out HB5.out) hb5')
                have HX45 : Hid (Below X4.heap.size X4 X5) := bCl HB5.out hb5'
                have HX5 : Hid (BoxL X5 w5.heap.size 0 [.slice A5 d'.pos.length c5, .int .i64 d'.x, .int .i64 d'.top, .int .i64 d'.bottom]) := by rw [← hX5]; exact BoxL.new _ _ _ _ rfl _ rfl
                rw [hX5]
                clear hX5 hb5'
                obtain ⟨hl2, hrz, hzz, hfz, hbw, hgz⟩ := KB.out X5 HT5.out
                have m0 := hl2.node 0 _ rfl
                have m1 := hl2.node 1 _ rfl
                have m2 := hl2.node 2 _ rfl
                have m3 := hl2.node 3 _ rfl
                have n0 := hl2.box 0 _ rfl
                have n1 := hl2.box 1 _ rfl
                have n2 := hl2.box 2 _ rfl
                have n3 := hl2.box 3 _ rfl
                have n4 := hl2.box 4 _ rfl
                have n5 := hl2.box 5 _ rfl
                have n6 := hl2.box 6 _ rfl
                have n7 := hl2.box 7 _ rfl
                have n8 := hl2.box 8 _ rfl
                have n9 := hl2.box 9 _ rfl
                have n10 := hl2.box 10 _ rfl
                have r0 := hrz 0 _ rfl
                have r1 := hrz 1 _ rfl
                have r2 := hrz 2 _ rfl
                have s0 := hzz 0 _ rfl
                have s1 := hzz 1 _ rfl
                have s2 := hzz 2 _ rfl
                have s3 := hzz 3 _ rfl
                have f0 := hfz 0
                have f1 := hfz 1
                have f2 := hfz 2
                have f3 := hfz 3
                simp only [Nat.zero_add] at m0 m1 m2 m3 n0 n1 n2 n3 n4 n5 n6 n7 n8 n9 n10 r0 r1 r2 s0 s1 s2 s3
                have HBW_X5 := hid hbw
                clear hl2 hrz hzz hfz hbw hgz
                have hy4 := HX4.out.1.below HX45.out HX4.out.2
                have x0 := hy4 0 _ rfl
                have x1 := hy4 1 _ rfl
                have x2 := hy4 2 _ rfl
                have x3 := hy4 3 _ rfl
                have y0 := HX5.out 0 _ rfl
                have y1 := HX5.out 1 _ rfl
                have y2 := HX5.out 2 _ rfl
                have y3 := HX5.out 3 _ rfl
                simp only [Nat.zero_add] at x0 x1 x2 x3 y0 y1 y2 y3
                clear hy4
                go_wp2_with fail
                generalize hW : (((X5.setCell _ (.int .i64 d.x)).setCell _ (.int .i64 d'.x)).setCell _ (.int .i64 d.top)).setCell _ (.int .i64 d.bottom) = WE
                obtain ⟨⟨z0, z1, z2, z3⟩, rz, rb, ro, _⟩ := four s0 s1 s2 s3 _ _ _ _ hW.symm
                have HB' := hid (rb w.heap.size w (by omega) HBW_X5.out)
                clear hW ro rb rz
                refine bodyPost_ret (v := .tuple #[.agg #[.int .i64 d.x, .int .i64 d'.x, .int .i64 d.top, .int .i64 d.bottom], .int .i64 0]) (by simp [results, Tryz.results20, go_sem, z0, z1, z2, z3]) rfl ?_
                exact ⟨HB'.out, by rw [HR.out]⟩
end Go.Proofs.YtmahiejfniaahaaGreatDoor
