/- caret.Place. Written by wip/genplc.py. -/
import Derived.Test.YtmahiejfniaahaaDoorHD
import Derived.Test.YtmahiejfniaahaaDoorHC
import Derived.Test.YtmahiejfniaahaaDoorGF
import Derived.Laws.EntriesVeiled
set_option linter.unusedVariables false
set_option linter.unusedSimpArgs false
set_option maxRecDepth 100000
namespace Go.Proofs.YtmahiejfniaahaaDoor
open Go.RowKit

set_option maxHeartbeats 4000000 in
theorem cplace_any (t : Tree) (b : Bx) (p : List Int) (A Ak As Ap : Option Addr) (cap ck cs cp : Nat) (w : World) (hv : SliceR treeE w (Lt w.heap.size) t.kids (.slice A t.kids.length cap)) (htx : t.text.size ≤ maxLen) (hb : BoxIn w b Ak As ck cs) (hp : IntsR w (Lt w.heap.size) p (.slice Ap p.length cp)) (htab : TabOk w) :
    Calls Tryd.prog 17 #[nodeV t A cap, boxV b Ak As ck cs, .slice Ap p.length cp] w (CarRes w (placeR t b p)) := by
  have CV : Hid (∀ W, Below w.heap.size w W → Calls Tryd.prog 22 #[nodeV t A cap, boxV b Ak As ck cs] W fun e w' => e = .returned (.bool (validS t && validB b)) ∧ Below W.heap.size W w') := fun W hW => cvalid_any t b A Ak As cap ck cs W (hv.below hW hW.size) htx (hb.below hW)
  generalize hW0 : ((w.alloc (Obj.cells #[.int .i64 t.kind, .string t.text, .int .i64 t.cols, .slice A t.kids.length cap] 24)).alloc (Obj.cells (boxC b.f (.slice Ak b.kids.length ck) (.slice As b.f.src.length cs)) 28)).alloc (.cells #[.slice none 0 0, .int .i64 0, .int .i64 0, .int .i64 0] 42) = W0
  have KB : Hid (∀ W, Below W0.heap.size W0 W → Laid2 W w.heap.size w.heap.size t b A Ak As cap ck cs ∧ BoxL W (w.heap.size + 2) 0 [.slice none 0 0, .int .i64 0, .int .i64 0, .int .i64 0] ∧ FreeB W (w.heap.size + 2) ∧ Below w.heap.size w W ∧ w.heap.size + 2 < W.heap.size) := fun W hW => by
    have hz0 : W0.heap.size = w.heap.size + 3 := by rw [← hW0]; simp
    have h1 := Laid2.new w t b A Ak As cap ck cs 24 28 hv hb
    have h2 := h1.below (bNew _ (.cells #[.slice none 0 0, .int .i64 0, .int .i64 0, .int .i64 0] 42)) (by simp) (by simp; omega)
    have h3 : Below w.heap.size w W0 := by rw [← hW0]; exact bAl (bAl (bNew _ _) _) _
    have h4 : BoxL W0 (w.heap.size + 2) 0 [.slice none 0 0, .int .i64 0, .int .i64 0, .int .i64 0] ∧ FreeB W0 (w.heap.size + 2) := by rw [← hW0]; exact ⟨BoxL.new _ _ _ _ (by simp) _ rfl, FreeB.new _ _ _ _ (by simp)⟩
    rw [hW0] at h2
    exact ⟨h2.below hW (by omega) (by omega), h4.1.below hW (by omega), h4.2.below hW (by omega), h3.trans (hW.mono h3.size), by have := hW.size; omega⟩
  have CP : Hid (∀ W, Below w.heap.size w W → Calls Tryd.prog 32 #[nodeV t A cap, .slice Ap p.length cp] W fun e w' => e = .returned (.bool (validS t && posIn t p)) ∧ Below W.heap.size W w') := fun W hW => posValid_any t p A cap _ W (hv.below hW hW.size) htx (hp.below hW hW.size)
  have CL0 : Hid (∀ W, Below W0.heap.size W0 W → validB b = true → Calls Tryd.prog 24 #[.pointer (some ⟨w.heap.size + 1, 0, none⟩)] W (LinesRes W b)) := fun W hW h => by
    obtain ⟨a1, a2, a3, a4, a5⟩ := KB.out W hW
    exact lines_any (w.heap.size + 1) b W (a1.boxPl (by omega)) h (htab.below a4)
  have CPL0 : Hid (∀ W1 W bm, Below W0.heap.size W0 W1 → FoundM W (Lt W1.heap.size) bm (cntB b) (rowsB b 0 0) → Below W1.heap.size W1 W → validS t = true → validB b = true → posIn t p = true → Calls Tryd.prog 25 #[.pointer (some ⟨w.heap.size, 0, none⟩), .map (some bm), .slice Ap p.length cp] W (PlcRes W (placeP t b p))) := fun W1 W bm hW1 hF hW h1 h2 h3 => by
    have hWW := bCl hW1 hW
    obtain ⟨a1, a2, a3, a4, a5⟩ := KB.out W hWW
    obtain ⟨rs, hn⟩ := a1.nodeAt (by omega) a4.size htx
    exact place_of t b p w.heap.size bm (cntB b) cp cap A Ap rs (Lt W1.heap.size) W hn hF (fun k hk => Nat.lt_of_lt_of_le hk hW.size) h1 h2 (hp.below a4 a4.size) h3 (htab.below a4)
  have HR0 : Hid (placeR t b p = if (validS t && validB b) = false then (zeroC, (1 : Int)) else if posIn t p = false then (zeroC, (2 : Int)) else match placeP t b p with | none => (zeroC, (8 : Int)) | some d => (d, (0 : Int))) := rfl
  generalize placeR t b p = r at *
  generalize hpp : placeP t b p = o at *
  clear hpp hv htx hb hp htab
  cases hvv : (validS t && validB b) with
  | false =>
    rw [hvv] at CV HR0
    have HR : Hid (r = (zeroC, 1)) := by have h := HR0.out; rwa [if_pos rfl] at h
    clear HR0 CL0 CPL0 hvv CP
    obtain ⟨hl2, hrz, hfz, hbw, hgz⟩ := KB.out W0 (Below.refl _ _)
    have m0 := hl2.node 0 _ rfl
    have m1 := hl2.node 1 _ rfl
    have m2 := hl2.node 2 _ rfl
    have m3 := hl2.node 3 _ rfl
    have n0 := hl2.box 0 _ rfl
    have n1 := hl2.box 1 _ rfl
    have n2 := hl2.box 2 _ rfl
    have n3 := hl2.box 3 _ rfl
    have n4 := hl2.box 4 _ rfl
    have n5 := hl2.box 5 _ rfl
    have n6 := hl2.box 6 _ rfl
    have n7 := hl2.box 7 _ rfl
    have n8 := hl2.box 8 _ rfl
    have n9 := hl2.box 9 _ rfl
    have n10 := hl2.box 10 _ rfl
    have r0 := hrz 0 _ rfl
    have r1 := hrz 1 _ rfl
    have r2 := hrz 2 _ rfl
    have r3 := hrz 3 _ rfl
    have f0 := hfz 0
    have f1 := hfz 1
    have f2 := hfz 2
    have f3 := hfz 3
    simp only [Nat.zero_add] at m0 m1 m2 m3 n0 n1 n2 n3 n4 n5 n6 n7 n8 n9 n10 r0 r1 r2 r3
    have HBW_W0 := hid hbw
    clear hl2 hrz hfz hbw hgz
    go_enter Tryd.func17, Tryd.ntmps17
    go_wp2_with fail
    clear hW0
    refine (CV.out _ HBW_W0.out).mono ?_
    rintro e w1 ⟨rfl, hb1⟩
    have HT1 := hid hb1
    clear hb1
    clear m0 m1 m2 m3 n0 n1 n2 n3 n4 n5 n6 n7 n8 n9 n10 r0 r1 r2 r3 f0 f1 f2 f3
    obtain ⟨hl2, hrz, hfz, hbw, hgz⟩ := KB.out w1 HT1.out
    have m0 := hl2.node 0 _ rfl
    have m1 := hl2.node 1 _ rfl
    have m2 := hl2.node 2 _ rfl
    have m3 := hl2.node 3 _ rfl
    have n0 := hl2.box 0 _ rfl
    have n1 := hl2.box 1 _ rfl
    have n2 := hl2.box 2 _ rfl
    have n3 := hl2.box 3 _ rfl
    have n4 := hl2.box 4 _ rfl
    have n5 := hl2.box 5 _ rfl
    have n6 := hl2.box 6 _ rfl
    have n7 := hl2.box 7 _ rfl
    have n8 := hl2.box 8 _ rfl
    have n9 := hl2.box 9 _ rfl
    have n10 := hl2.box 10 _ rfl
    have r0 := hrz 0 _ rfl
    have r1 := hrz 1 _ rfl
    have r2 := hrz 2 _ rfl
    have r3 := hrz 3 _ rfl
    have f0 := hfz 0
    have f1 := hfz 1
    have f2 := hfz 2
    have f3 := hfz 3
    simp only [Nat.zero_add] at m0 m1 m2 m3 n0 n1 n2 n3 n4 n5 n6 n7 n8 n9 n10 r0 r1 r2 r3
    have HBW_w1 := hid hbw
    clear hl2 hrz hfz hbw hgz
    go_wp2_with fail
    generalize hW : (((w1.setCell _ (.slice none 0 0)).setCell _ (.int .i64 0)).setCell _ (.int .i64 0)).setCell _ (.int .i64 0) = WE
    obtain ⟨⟨z0, z1, z2, z3⟩, rz, rb, ro, _⟩ := four r0 r1 r2 r3 _ _ _ _ hW.symm
    have HB' := hid (rb w.heap.size w (by omega) HBW_w1.out)
    have HRO := hid ro
    have HRZ := hid rz
    clear hW ro rb rz
    refine bodyPost_ret (v := .tuple #[.agg #[.slice none 0 0, .int .i64 0, .int .i64 0, .int .i64 0], .int .i64 1]) (by simp [results, Tryd.results17, go_sem, z0, z1, z2, z3]) rfl ?_
    have h := HR.out
    exact ⟨HB'.out, .slice none 0 0, by rw [h]; rfl, by rw [h]; exact SliceR.nil_ 0 (Nat.zero_le _) none⟩
  | true =>
    have hv1 : validS t = true := by cases h : validS t <;> rw [h] at hvv <;> simp_all
    have hv2 : validB b = true := by cases h : validB b <;> rw [h] at hvv <;> simp_all
    rw [hvv] at CV HR0
    rw [hv1, Bool.true_and] at CP
    have CL : Hid (∀ W, Below W0.heap.size W0 W → Calls Tryd.prog 24 #[.pointer (some ⟨w.heap.size + 1, 0, none⟩)] W (LinesRes W b)) := fun W hW => CL0.out W hW hv2
    cases hpi : posIn t p with
    | false =>
      rw [hpi] at CP HR0
      have HR : Hid (r = (zeroC, 2)) := by have h := HR0.out; rwa [if_neg (by simp), if_pos rfl] at h
      clear HR0 CL0 CPL0 hvv CL hpi hv1 hv2
      obtain ⟨hl2, hrz, hfz, hbw, hgz⟩ := KB.out W0 (Below.refl _ _)
      have m0 := hl2.node 0 _ rfl
      have m1 := hl2.node 1 _ rfl
      have m2 := hl2.node 2 _ rfl
      have m3 := hl2.node 3 _ rfl
      have n0 := hl2.box 0 _ rfl
      have n1 := hl2.box 1 _ rfl
      have n2 := hl2.box 2 _ rfl
      have n3 := hl2.box 3 _ rfl
      have n4 := hl2.box 4 _ rfl
      have n5 := hl2.box 5 _ rfl
      have n6 := hl2.box 6 _ rfl
      have n7 := hl2.box 7 _ rfl
      have n8 := hl2.box 8 _ rfl
      have n9 := hl2.box 9 _ rfl
      have n10 := hl2.box 10 _ rfl
      have r0 := hrz 0 _ rfl
      have r1 := hrz 1 _ rfl
      have r2 := hrz 2 _ rfl
      have r3 := hrz 3 _ rfl
      have f0 := hfz 0
      have f1 := hfz 1
      have f2 := hfz 2
      have f3 := hfz 3
      simp only [Nat.zero_add] at m0 m1 m2 m3 n0 n1 n2 n3 n4 n5 n6 n7 n8 n9 n10 r0 r1 r2 r3
      have HBW_W0 := hid hbw
      clear hl2 hrz hfz hbw hgz
      go_enter Tryd.func17, Tryd.ntmps17
      go_wp2_with fail
      clear hW0
      refine (CV.out _ HBW_W0.out).mono ?_
      rintro e w1 ⟨rfl, hb1⟩
      have HT1 := hid hb1
      clear hb1
      clear m0 m1 m2 m3 n0 n1 n2 n3 n4 n5 n6 n7 n8 n9 n10 r0 r1 r2 r3 f0 f1 f2 f3
      obtain ⟨hl2, hrz, hfz, hbw, hgz⟩ := KB.out w1 HT1.out
      have m0 := hl2.node 0 _ rfl
      have m1 := hl2.node 1 _ rfl
      have m2 := hl2.node 2 _ rfl
      have m3 := hl2.node 3 _ rfl
      have n0 := hl2.box 0 _ rfl
      have n1 := hl2.box 1 _ rfl
      have n2 := hl2.box 2 _ rfl
      have n3 := hl2.box 3 _ rfl
      have n4 := hl2.box 4 _ rfl
      have n5 := hl2.box 5 _ rfl
      have n6 := hl2.box 6 _ rfl
      have n7 := hl2.box 7 _ rfl
      have n8 := hl2.box 8 _ rfl
      have n9 := hl2.box 9 _ rfl
      have n10 := hl2.box 10 _ rfl
      have r0 := hrz 0 _ rfl
      have r1 := hrz 1 _ rfl
      have r2 := hrz 2 _ rfl
      have r3 := hrz 3 _ rfl
      have f0 := hfz 0
      have f1 := hfz 1
      have f2 := hfz 2
      have f3 := hfz 3
      simp only [Nat.zero_add] at m0 m1 m2 m3 n0 n1 n2 n3 n4 n5 n6 n7 n8 n9 n10 r0 r1 r2 r3
      have HBW_w1 := hid hbw
      clear hl2 hrz hfz hbw hgz
      go_wp2_with fail
      refine (CP.out _ HBW_w1.out).mono ?_
      rintro e w2 ⟨rfl, hb2⟩
      have HT2 := hid (bCl HT1.out hb2)
      clear hb2
      clear m0 m1 m2 m3 n0 n1 n2 n3 n4 n5 n6 n7 n8 n9 n10 r0 r1 r2 r3 f0 f1 f2 f3
      obtain ⟨hl2, hrz, hfz, hbw, hgz⟩ := KB.out w2 HT2.out
      have m0 := hl2.node 0 _ rfl
      have m1 := hl2.node 1 _ rfl
      have m2 := hl2.node 2 _ rfl
      have m3 := hl2.node 3 _ rfl
      have n0 := hl2.box 0 _ rfl
      have n1 := hl2.box 1 _ rfl
      have n2 := hl2.box 2 _ rfl
      have n3 := hl2.box 3 _ rfl
      have n4 := hl2.box 4 _ rfl
      have n5 := hl2.box 5 _ rfl
      have n6 := hl2.box 6 _ rfl
      have n7 := hl2.box 7 _ rfl
      have n8 := hl2.box 8 _ rfl
      have n9 := hl2.box 9 _ rfl
      have n10 := hl2.box 10 _ rfl
      have r0 := hrz 0 _ rfl
      have r1 := hrz 1 _ rfl
      have r2 := hrz 2 _ rfl
      have r3 := hrz 3 _ rfl
      have f0 := hfz 0
      have f1 := hfz 1
      have f2 := hfz 2
      have f3 := hfz 3
      simp only [Nat.zero_add] at m0 m1 m2 m3 n0 n1 n2 n3 n4 n5 n6 n7 n8 n9 n10 r0 r1 r2 r3
      have HBW_w2 := hid hbw
      clear hl2 hrz hfz hbw hgz
      go_wp2_with fail
      generalize hW : (((w2.setCell _ (.slice none 0 0)).setCell _ (.int .i64 0)).setCell _ (.int .i64 0)).setCell _ (.int .i64 0) = WE
      obtain ⟨⟨z0, z1, z2, z3⟩, rz, rb, ro, _⟩ := four r0 r1 r2 r3 _ _ _ _ hW.symm
      have HB' := hid (rb w.heap.size w (by omega) HBW_w2.out)
      have HRO := hid ro
      have HRZ := hid rz
      clear hW ro rb rz
      refine bodyPost_ret (v := .tuple #[.agg #[.slice none 0 0, .int .i64 0, .int .i64 0, .int .i64 0], .int .i64 2]) (by simp [results, Tryd.results17, go_sem, z0, z1, z2, z3]) rfl ?_
      have h := HR.out
      exact ⟨HB'.out, .slice none 0 0, by rw [h]; rfl, by rw [h]; exact SliceR.nil_ 0 (Nat.zero_le _) none⟩
    | true =>
      rw [hpi] at CP HR0
      have CPL : Hid (∀ W1 W bm, Below W0.heap.size W0 W1 → FoundM W (Lt W1.heap.size) bm (cntB b) (rowsB b 0 0) → Below W1.heap.size W1 W → Calls Tryd.prog 25 #[.pointer (some ⟨w.heap.size, 0, none⟩), .map (some bm), .slice Ap p.length cp] W (PlcRes W o)) := fun W1 W bm h1 h2 h3 => CPL0.out W1 W bm h1 h2 h3 hv1 hv2 hpi
      clear CL0 CPL0 hvv hpi hv1 hv2
      cases o with
      | none =>
        have HR : Hid (r = (zeroC, 8)) := by have h := HR0.out; rwa [if_neg (by simp), if_neg (by simp)] at h
        clear HR0
        obtain ⟨hl2, hrz, hfz, hbw, hgz⟩ := KB.out W0 (Below.refl _ _)
        have m0 := hl2.node 0 _ rfl
        have m1 := hl2.node 1 _ rfl
        have m2 := hl2.node 2 _ rfl
        have m3 := hl2.node 3 _ rfl
        have n0 := hl2.box 0 _ rfl
        have n1 := hl2.box 1 _ rfl
        have n2 := hl2.box 2 _ rfl
        have n3 := hl2.box 3 _ rfl
        have n4 := hl2.box 4 _ rfl
        have n5 := hl2.box 5 _ rfl
        have n6 := hl2.box 6 _ rfl
        have n7 := hl2.box 7 _ rfl
        have n8 := hl2.box 8 _ rfl
        have n9 := hl2.box 9 _ rfl
        have n10 := hl2.box 10 _ rfl
        have r0 := hrz 0 _ rfl
        have r1 := hrz 1 _ rfl
        have r2 := hrz 2 _ rfl
        have r3 := hrz 3 _ rfl
        have f0 := hfz 0
        have f1 := hfz 1
        have f2 := hfz 2
        have f3 := hfz 3
        simp only [Nat.zero_add] at m0 m1 m2 m3 n0 n1 n2 n3 n4 n5 n6 n7 n8 n9 n10 r0 r1 r2 r3
        have HBW_W0 := hid hbw
        clear hl2 hrz hfz hbw hgz
        go_enter Tryd.func17, Tryd.ntmps17
        go_wp2_with fail
        clear hW0
        refine (CV.out _ HBW_W0.out).mono ?_
        rintro e w1 ⟨rfl, hb1⟩
        have HT1 := hid hb1
        clear hb1
        clear m0 m1 m2 m3 n0 n1 n2 n3 n4 n5 n6 n7 n8 n9 n10 r0 r1 r2 r3 f0 f1 f2 f3
        obtain ⟨hl2, hrz, hfz, hbw, hgz⟩ := KB.out w1 HT1.out
        have m0 := hl2.node 0 _ rfl
        have m1 := hl2.node 1 _ rfl
        have m2 := hl2.node 2 _ rfl
        have m3 := hl2.node 3 _ rfl
        have n0 := hl2.box 0 _ rfl
        have n1 := hl2.box 1 _ rfl
        have n2 := hl2.box 2 _ rfl
        have n3 := hl2.box 3 _ rfl
        have n4 := hl2.box 4 _ rfl
        have n5 := hl2.box 5 _ rfl
        have n6 := hl2.box 6 _ rfl
        have n7 := hl2.box 7 _ rfl
        have n8 := hl2.box 8 _ rfl
        have n9 := hl2.box 9 _ rfl
        have n10 := hl2.box 10 _ rfl
        have r0 := hrz 0 _ rfl
        have r1 := hrz 1 _ rfl
        have r2 := hrz 2 _ rfl
        have r3 := hrz 3 _ rfl
        have f0 := hfz 0
        have f1 := hfz 1
        have f2 := hfz 2
        have f3 := hfz 3
        simp only [Nat.zero_add] at m0 m1 m2 m3 n0 n1 n2 n3 n4 n5 n6 n7 n8 n9 n10 r0 r1 r2 r3
        have HBW_w1 := hid hbw
        clear hl2 hrz hfz hbw hgz
        go_wp2_with fail
        refine (CP.out _ HBW_w1.out).mono ?_
        rintro e w2 ⟨rfl, hb2⟩
        have HT2 := hid (bCl HT1.out hb2)
        clear hb2
        clear m0 m1 m2 m3 n0 n1 n2 n3 n4 n5 n6 n7 n8 n9 n10 r0 r1 r2 r3 f0 f1 f2 f3
        obtain ⟨hl2, hrz, hfz, hbw, hgz⟩ := KB.out w2 HT2.out
        have m0 := hl2.node 0 _ rfl
        have m1 := hl2.node 1 _ rfl
        have m2 := hl2.node 2 _ rfl
        have m3 := hl2.node 3 _ rfl
        have n0 := hl2.box 0 _ rfl
        have n1 := hl2.box 1 _ rfl
        have n2 := hl2.box 2 _ rfl
        have n3 := hl2.box 3 _ rfl
        have n4 := hl2.box 4 _ rfl
        have n5 := hl2.box 5 _ rfl
        have n6 := hl2.box 6 _ rfl
        have n7 := hl2.box 7 _ rfl
        have n8 := hl2.box 8 _ rfl
        have n9 := hl2.box 9 _ rfl
        have n10 := hl2.box 10 _ rfl
        have r0 := hrz 0 _ rfl
        have r1 := hrz 1 _ rfl
        have r2 := hrz 2 _ rfl
        have r3 := hrz 3 _ rfl
        have f0 := hfz 0
        have f1 := hfz 1
        have f2 := hfz 2
        have f3 := hfz 3
        simp only [Nat.zero_add] at m0 m1 m2 m3 n0 n1 n2 n3 n4 n5 n6 n7 n8 n9 n10 r0 r1 r2 r3
        have HBW_w2 := hid hbw
        clear hl2 hrz hfz hbw hgz
        go_wp2_with fail
        refine (CL.out _ HT2.out).mono ?_
        rintro e w3 ⟨bm, rfl, hbm, hfm, hb3⟩
        have HT3 := hid (bCl HT2.out hb3)
        have CPLX := hid (CPL.out w2 w3 bm HT2.out hfm hb3)
        clear hb3 hfm hbm
        clear m0 m1 m2 m3 n0 n1 n2 n3 n4 n5 n6 n7 n8 n9 n10 r0 r1 r2 r3 f0 f1 f2 f3
        obtain ⟨hl2, hrz, hfz, hbw, hgz⟩ := KB.out w3 HT3.out
        have m0 := hl2.node 0 _ rfl
        have m1 := hl2.node 1 _ rfl
        have m2 := hl2.node 2 _ rfl
        have m3 := hl2.node 3 _ rfl
        have n0 := hl2.box 0 _ rfl
        have n1 := hl2.box 1 _ rfl
        have n2 := hl2.box 2 _ rfl
        have n3 := hl2.box 3 _ rfl
        have n4 := hl2.box 4 _ rfl
        have n5 := hl2.box 5 _ rfl
        have n6 := hl2.box 6 _ rfl
        have n7 := hl2.box 7 _ rfl
        have n8 := hl2.box 8 _ rfl
        have n9 := hl2.box 9 _ rfl
        have n10 := hl2.box 10 _ rfl
        have r0 := hrz 0 _ rfl
        have r1 := hrz 1 _ rfl
        have r2 := hrz 2 _ rfl
        have r3 := hrz 3 _ rfl
        have f0 := hfz 0
        have f1 := hfz 1
        have f2 := hfz 2
        have f3 := hfz 3
        simp only [Nat.zero_add] at m0 m1 m2 m3 n0 n1 n2 n3 n4 n5 n6 n7 n8 n9 n10 r0 r1 r2 r3
        have HBW_w3 := hid hbw
        clear hl2 hrz hfz hbw hgz
        go_wp2_with fail
        refine CPLX.out.mono ?_
        rintro e w4 ⟨hb4, ⟨_, rfl⟩ | ⟨d, v, h, _⟩⟩
        case inr => cases h
        have HT4 := hid (bCl HT3.out hb4)
        clear hb4
        clear m0 m1 m2 m3 n0 n1 n2 n3 n4 n5 n6 n7 n8 n9 n10 r0 r1 r2 r3 f0 f1 f2 f3
        go_upto_region 6 with fail
        obtain ⟨w5, hW5⟩ : ∃ W, w4.alloc (.cells #[.slice none 0 0, .int .i64 0, .int .i64 0, .int .i64 0] 42) = W := ⟨_, rfl⟩
        have HT5 : Hid (Below W0.heap.size W0 w5) := by rw [← hW5]; exact bAl HT4.out _
        rw [hW5]
        clear hW5
        obtain ⟨hl2, hrz, hfz, hbw, hgz⟩ := KB.out w5 HT5.out
        have r0 := hrz 0 _ rfl
        have r1 := hrz 1 _ rfl
        have r2 := hrz 2 _ rfl
        have r3 := hrz 3 _ rfl
        have f0 := hfz 0
        have f1 := hfz 1
        have f2 := hfz 2
        have f3 := hfz 3
        simp only [Nat.zero_add] at r0 r1 r2 r3
        have HBW_w5 := hid hbw
        clear hl2 hrz hfz hbw hgz
        go_wp2_with fail
        generalize hW : (((w5.setCell _ (.slice none 0 0)).setCell _ (.int .i64 0)).setCell _ (.int .i64 0)).setCell _ (.int .i64 0) = WE
        obtain ⟨⟨z0, z1, z2, z3⟩, rz, rb, ro, _⟩ := four r0 r1 r2 r3 _ _ _ _ hW.symm
        have HB' := hid (rb w.heap.size w (by omega) HBW_w5.out)
        have HRO := hid ro
        have HRZ := hid rz
        clear hW ro rb rz
        refine bodyPost_ret (v := .tuple #[.agg #[.slice none 0 0, .int .i64 0, .int .i64 0, .int .i64 0], .int .i64 8]) (by simp [results, Tryd.results17, go_sem, z0, z1, z2, z3]) rfl ?_
        have h := HR.out
        exact ⟨HB'.out, .slice none 0 0, by rw [h]; rfl, by rw [h]; exact SliceR.nil_ 0 (Nat.zero_le _) none⟩
      | some d =>
        have HR : Hid (r = (d, 0)) := by have h := HR0.out; rwa [if_neg (by simp), if_neg (by simp)] at h
        clear HR0
        obtain ⟨hl2, hrz, hfz, hbw, hgz⟩ := KB.out W0 (Below.refl _ _)
        have m0 := hl2.node 0 _ rfl
        have m1 := hl2.node 1 _ rfl
        have m2 := hl2.node 2 _ rfl
        have m3 := hl2.node 3 _ rfl
        have n0 := hl2.box 0 _ rfl
        have n1 := hl2.box 1 _ rfl
        have n2 := hl2.box 2 _ rfl
        have n3 := hl2.box 3 _ rfl
        have n4 := hl2.box 4 _ rfl
        have n5 := hl2.box 5 _ rfl
        have n6 := hl2.box 6 _ rfl
        have n7 := hl2.box 7 _ rfl
        have n8 := hl2.box 8 _ rfl
        have n9 := hl2.box 9 _ rfl
        have n10 := hl2.box 10 _ rfl
        have r0 := hrz 0 _ rfl
        have r1 := hrz 1 _ rfl
        have r2 := hrz 2 _ rfl
        have r3 := hrz 3 _ rfl
        have f0 := hfz 0
        have f1 := hfz 1
        have f2 := hfz 2
        have f3 := hfz 3
        simp only [Nat.zero_add] at m0 m1 m2 m3 n0 n1 n2 n3 n4 n5 n6 n7 n8 n9 n10 r0 r1 r2 r3
        have HBW_W0 := hid hbw
        clear hl2 hrz hfz hbw hgz
        go_enter Tryd.func17, Tryd.ntmps17
        go_wp2_with fail
        clear hW0
        refine (CV.out _ HBW_W0.out).mono ?_
        rintro e w1 ⟨rfl, hb1⟩
        have HT1 := hid hb1
        clear hb1
        clear m0 m1 m2 m3 n0 n1 n2 n3 n4 n5 n6 n7 n8 n9 n10 r0 r1 r2 r3 f0 f1 f2 f3
        obtain ⟨hl2, hrz, hfz, hbw, hgz⟩ := KB.out w1 HT1.out
        have m0 := hl2.node 0 _ rfl
        have m1 := hl2.node 1 _ rfl
        have m2 := hl2.node 2 _ rfl
        have m3 := hl2.node 3 _ rfl
        have n0 := hl2.box 0 _ rfl
        have n1 := hl2.box 1 _ rfl
        have n2 := hl2.box 2 _ rfl
        have n3 := hl2.box 3 _ rfl
        have n4 := hl2.box 4 _ rfl
        have n5 := hl2.box 5 _ rfl
        have n6 := hl2.box 6 _ rfl
        have n7 := hl2.box 7 _ rfl
        have n8 := hl2.box 8 _ rfl
        have n9 := hl2.box 9 _ rfl
        have n10 := hl2.box 10 _ rfl
        have r0 := hrz 0 _ rfl
        have r1 := hrz 1 _ rfl
        have r2 := hrz 2 _ rfl
        have r3 := hrz 3 _ rfl
        have f0 := hfz 0
        have f1 := hfz 1
        have f2 := hfz 2
        have f3 := hfz 3
        simp only [Nat.zero_add] at m0 m1 m2 m3 n0 n1 n2 n3 n4 n5 n6 n7 n8 n9 n10 r0 r1 r2 r3
        have HBW_w1 := hid hbw
        clear hl2 hrz hfz hbw hgz
        go_wp2_with fail
        refine (CP.out _ HBW_w1.out).mono ?_
        rintro e w2 ⟨rfl, hb2⟩
        have HT2 := hid (bCl HT1.out hb2)
        clear hb2
        clear m0 m1 m2 m3 n0 n1 n2 n3 n4 n5 n6 n7 n8 n9 n10 r0 r1 r2 r3 f0 f1 f2 f3
        obtain ⟨hl2, hrz, hfz, hbw, hgz⟩ := KB.out w2 HT2.out
        have m0 := hl2.node 0 _ rfl
        have m1 := hl2.node 1 _ rfl
        have m2 := hl2.node 2 _ rfl
        have m3 := hl2.node 3 _ rfl
        have n0 := hl2.box 0 _ rfl
        have n1 := hl2.box 1 _ rfl
        have n2 := hl2.box 2 _ rfl
        have n3 := hl2.box 3 _ rfl
        have n4 := hl2.box 4 _ rfl
        have n5 := hl2.box 5 _ rfl
        have n6 := hl2.box 6 _ rfl
        have n7 := hl2.box 7 _ rfl
        have n8 := hl2.box 8 _ rfl
        have n9 := hl2.box 9 _ rfl
        have n10 := hl2.box 10 _ rfl
        have r0 := hrz 0 _ rfl
        have r1 := hrz 1 _ rfl
        have r2 := hrz 2 _ rfl
        have r3 := hrz 3 _ rfl
        have f0 := hfz 0
        have f1 := hfz 1
        have f2 := hfz 2
        have f3 := hfz 3
        simp only [Nat.zero_add] at m0 m1 m2 m3 n0 n1 n2 n3 n4 n5 n6 n7 n8 n9 n10 r0 r1 r2 r3
        have HBW_w2 := hid hbw
        clear hl2 hrz hfz hbw hgz
        go_wp2_with fail
        refine (CL.out _ HT2.out).mono ?_
        rintro e w3 ⟨bm, rfl, hbm, hfm, hb3⟩
        have HT3 := hid (bCl HT2.out hb3)
        have CPLX := hid (CPL.out w2 w3 bm HT2.out hfm hb3)
        clear hb3 hfm hbm
        clear m0 m1 m2 m3 n0 n1 n2 n3 n4 n5 n6 n7 n8 n9 n10 r0 r1 r2 r3 f0 f1 f2 f3
        obtain ⟨hl2, hrz, hfz, hbw, hgz⟩ := KB.out w3 HT3.out
        have m0 := hl2.node 0 _ rfl
        have m1 := hl2.node 1 _ rfl
        have m2 := hl2.node 2 _ rfl
        have m3 := hl2.node 3 _ rfl
        have n0 := hl2.box 0 _ rfl
        have n1 := hl2.box 1 _ rfl
        have n2 := hl2.box 2 _ rfl
        have n3 := hl2.box 3 _ rfl
        have n4 := hl2.box 4 _ rfl
        have n5 := hl2.box 5 _ rfl
        have n6 := hl2.box 6 _ rfl
        have n7 := hl2.box 7 _ rfl
        have n8 := hl2.box 8 _ rfl
        have n9 := hl2.box 9 _ rfl
        have n10 := hl2.box 10 _ rfl
        have r0 := hrz 0 _ rfl
        have r1 := hrz 1 _ rfl
        have r2 := hrz 2 _ rfl
        have r3 := hrz 3 _ rfl
        have f0 := hfz 0
        have f1 := hfz 1
        have f2 := hfz 2
        have f3 := hfz 3
        simp only [Nat.zero_add] at m0 m1 m2 m3 n0 n1 n2 n3 n4 n5 n6 n7 n8 n9 n10 r0 r1 r2 r3
        have HBW_w3 := hid hbw
        clear hl2 hrz hfz hbw hgz
        go_wp2_with fail
        refine CPLX.out.mono ?_
        rintro e w4 ⟨hb4, ⟨h, _⟩ | ⟨d', v, h, rfl, hi4⟩⟩
        case inl => cases h
        cases h
        obtain ⟨A4, c4, rfl⟩ := hi4.form
        have HI4 := hid hi4
        have HT4 := hid (bCl HT3.out hb4)
        have HB34 := hid hb4
        clear hb4 hi4
        clear m0 m1 m2 m3 n0 n1 n2 n3 n4 n5 n6 n7 n8 n9 n10 r0 r1 r2 r3 f0 f1 f2 f3
        go_upto_region 6 with fail
        obtain ⟨w5, hW5⟩ : ∃ W, w4.alloc (.cells #[.slice A4 d.pos.length c4, .int .i64 d.x, .int .i64 d.top, .int .i64 d.bottom] 42) = W := ⟨_, rfl⟩
        have hx5 : BoxL w5 w4.heap.size 0 [.slice A4 d.pos.length c4, .int .i64 d.x, .int .i64 d.top, .int .i64 d.bottom] := by rw [← hW5]; exact BoxL.new _ _ _ _ rfl _ rfl
        have hb5 : Below w4.heap.size w4 w5 := by rw [← hW5]; exact bNew _ _
        have HT5 := hid (bCl HT4.out hb5)
        have HI5 := hid (HI4.out.keep (S' := fun k => w3.heap.size ≤ k ∧ k < w5.heap.size) (fun p hp => hb5.cell hp.2) (fun k hk => ⟨hk.1, Nat.lt_of_lt_of_le hk.2 hb5.size⟩))
        have HG3 := hid (KB.out w3 HT3.out).2.2.2.2
        rw [hW5]
        clear hW5 hb5
        have x0 := hx5 0 _ rfl
        have x1 := hx5 1 _ rfl
        have x2 := hx5 2 _ rfl
        have x3 := hx5 3 _ rfl
        simp only [Nat.zero_add] at x0 x1 x2 x3
        clear hx5
        obtain ⟨hl2, hrz, hfz, hbw, hgz⟩ := KB.out w5 HT5.out
        have r0 := hrz 0 _ rfl
        have r1 := hrz 1 _ rfl
        have r2 := hrz 2 _ rfl
        have r3 := hrz 3 _ rfl
        have f0 := hfz 0
        have f1 := hfz 1
        have f2 := hfz 2
        have f3 := hfz 3
        simp only [Nat.zero_add] at r0 r1 r2 r3
        have HBW_w5 := hid hbw
        clear hl2 hrz hfz hbw hgz
        go_wp2_with fail
        generalize hW : (((w5.setCell _ (.slice A4 d.pos.length c4)).setCell _ (.int .i64 d.x)).setCell _ (.int .i64 d.top)).setCell _ (.int .i64 d.bottom) = WE
        obtain ⟨⟨z0, z1, z2, z3⟩, rz, rb, ro, _⟩ := four r0 r1 r2 r3 _ _ _ _ hW.symm
        have HB' := hid (rb w.heap.size w (by omega) HBW_w5.out)
        have HRO := hid ro
        have HRZ := hid rz
        clear hW ro rb rz
        refine bodyPost_ret (v := .tuple #[.agg #[.slice A4 d.pos.length c4, .int .i64 d.x, .int .i64 d.top, .int .i64 d.bottom], .int .i64 0]) (by simp [results, Tryd.results17, go_sem, z0, z1, z2, z3]) rfl ?_
        have h := HR.out
        subst h
        exact ⟨HB'.out, _, rfl, HI5.out.keep (fun p hp => HRO.out p (Nat.ne_of_gt (Nat.lt_of_lt_of_le HG3.out hp.1))) (fun k hk => ⟨by have := HG3.out; have := hk.1; omega, by rw [HRZ.out]; exact hk.2⟩)⟩
end Go.Proofs.YtmahiejfniaahaaDoor
