/- caret.Select. Written by wip/genslt.py. -/
import Derived.Test.YtmahiejfniaahaaGreatDoorSltPv
import Derived.Laws.EntriesVeiled
import Derived.Deep.RegionHeld3
import Derived.Deep.DeepCutAuto
set_option linter.unusedVariables false
set_option linter.unusedSimpArgs false
set_option maxRecDepth 100000
namespace Go.Proofs.YtmahiejfniaahaaGreatDoor
open Go.RowKit

def CatCut (X : World) (q : List Int) (f e : Int) (u v : Value) (wx : World) : Prop := ∃ A1 c1 A2 c2, u = .slice A1 (q.length + 1) c1 ∧ v = .slice A2 (q.length + 1) c2 ∧ IntsR wx (Lt wx.heap.size) (q ++ [f]) (.slice A1 (q.length + 1) c1) ∧ IntsR wx (Lt wx.heap.size) (q ++ [e]) (.slice A2 (q.length + 1) c2) ∧ Below X.heap.size X wx
theorem catForm {W : World} {b : Nat} {q : List Int} {x : Int} {v : Value} (h : Owns W b (q ++ [x]) v) : ∃ A c, v = .slice A (q.length + 1) c ∧ IntsR W (Lt W.heap.size) (q ++ [x]) (.slice A (q.length + 1) c) := by
  have hi := h.ints (S := Lt W.heap.size) (fun _ _ h => h)
  obtain ⟨A, c, rfl⟩ := hi.form
  rw [show (q ++ [x]).length = q.length + 1 by simp] at hi ⊢
  exact ⟨A, c, rfl, hi⟩
set_option maxHeartbeats 8000000 in
theorem csel_any (t : Tree) (b : Bx) (q : List Int) (f e : Int) (A Ak As Aq : Option Addr) (cap ck cs cq : Nat) (w : World) (hv : SliceR treeE w (Lt w.heap.size) t.kids (.slice A t.kids.length cap)) (htx : t.text.size ≤ maxLen) (hb : BoxIn w b Ak As ck cs) (hq : IntsR w (Lt w.heap.size) q (.slice Aq q.length cq)) (hf : In64 f) (he : In64 e) (hql : q.length ≤ 100000) (htab : TabOk w) :
    Calls Tryz.prog 19 #[nodeV t A cap, boxV b Ak As ck cs, .agg #[.slice Aq q.length cq, .int .i64 f, .int .i64 e]] w (SelRes w (selR t b q f e)) := by
  have CV : Hid (∀ W, Below w.heap.size w W → Calls Tryz.prog 37 #[nodeV t A cap, boxV b Ak As ck cs] W fun e w' => e = .returned (.bool (validS t && validB b)) ∧ Below W.heap.size W w') := fun W hW => cvalid_any t b A Ak As cap ck cs W (hv.below hW hW.size) htx (hb.below hW)
  generalize hW0 : ((w.alloc (Obj.cells #[.int .i64 t.kind, .string t.text, .int .i64 t.cols, .slice A t.kids.length cap] 24)).alloc (Obj.cells (boxC b.f (.slice Ak b.kids.length ck) (.slice As b.f.src.length cs)) 28)).alloc (.cells #[.slice Aq q.length cq, .int .i64 f, .int .i64 e] 49) = W0
  have KB : Hid (∀ W, Below W0.heap.size W0 W → Laid2 W w.heap.size w.heap.size t b A Ak As cap ck cs ∧ BoxL W (w.heap.size + 2) 0 [.slice Aq q.length cq, .int .i64 f, .int .i64 e] ∧ Below w.heap.size w W ∧ w.heap.size + 2 < W.heap.size) := fun W hW => by
    have hz0 : W0.heap.size = w.heap.size + 3 := by rw [← hW0]; simp
    have h1 := Laid2.new w t b A Ak As cap ck cs 24 28 hv hb
    have h2 := h1.below (bNew _ (.cells #[.slice Aq q.length cq, .int .i64 f, .int .i64 e] 49)) (by simp) (by simp <;> omega)
    have h3 : Below w.heap.size w W0 := by rw [← hW0]; exact bAl (bAl (bNew _ _) _) _
    have h4 : BoxL W0 (w.heap.size + 2) 0 [.slice Aq q.length cq, .int .i64 f, .int .i64 e] := by rw [← hW0]; exact BoxL.new _ _ _ _ (by simp) _ rfl
    rw [hW0] at h2
    exact ⟨h2.below hW (by omega) (by omega), h4.below hW (by omega), h3.trans (hW.mono h3.size), by have := hW.size; omega⟩
  have CP : Hid (∀ W (x : Int) A1 c1, Below w.heap.size w W → IntsR W (Lt W.heap.size) (q ++ [x]) (.slice A1 (q.length + 1) c1) → Calls Tryz.prog 38 #[nodeV t A cap, .slice A1 (q.length + 1) c1] W fun e w' => e = .returned (.bool (validS t && posIn t (q ++ [x]))) ∧ Below W.heap.size W w') := fun W x A1 c1 hW hi => posValid_any t (q ++ [x]) A cap _ W (hv.below hW hW.size) htx hi
  have CL0 : Hid (∀ W, Below W0.heap.size W0 W → validB b = true → Calls Tryz.prog 40 #[.pointer (some ⟨w.heap.size + 1, 0, none⟩)] W (LinesRes W b)) := fun W hW h => by
    obtain ⟨a1, a2, a4, a5⟩ := KB.out W hW
    exact lines_any (w.heap.size + 1) b W (a1.boxPl (by omega)) h (htab.below a4)
  have CPL0 : Hid (∀ W1 W bm x A1 c1, Below W0.heap.size W0 W1 → FoundM W (Lt W1.heap.size) bm (cntB b) (rowsB b 0 0) → Below W1.heap.size W1 W → validS t = true → validB b = true → posIn t (q ++ [x]) = true → IntsR W (Lt W.heap.size) (q ++ [x]) (.slice A1 (q.length + 1) c1) → Calls Tryz.prog 39 #[.pointer (some ⟨w.heap.size, 0, none⟩), .map (some bm), .slice A1 (q.length + 1) c1] W (PlcRes W (placeS t b q x))) := fun W1 W bm x A1 c1 hW1 hF hW h1 h2 h3 hi => by
    have hWW := bCl hW1 hW
    obtain ⟨a1, a2, a4, a5⟩ := KB.out W hWW
    obtain ⟨rs, hn⟩ := a1.nodeAt (by omega) a4.size htx
    have hl : (q ++ [x]).length = q.length + 1 := by simp
    rw [← hl] at hi ⊢
    rw [← placeP_snoc]
    exact place_of t b (q ++ [x]) w.heap.size bm (cntB b) c1 cap A A1 rs (Lt W1.heap.size) W hn hF (fun k hk => Nat.lt_of_lt_of_le hk hW.size) h1 h2 hi h3 (htab.below a4)
  have HQX0 : Hid (∀ W, Below w.heap.size w W → IntsR W (Lt W.heap.size) q (.slice Aq q.length cq)) := fun W hW => hq.below hW hW.size
  have HR1 : Hid ((validS t && validB b) = false → selR t b q f e = ((0, 0, 0, 0), 1)) := fun h => selR_arg q f e h
  have HR2 : Hid ((validS t && validB b) = true → (posIn t (q ++ [f]) && (posIn t (q ++ [e]) && decide (f ≤ e))) = false → selR t b q f e = ((0, 0, 0, 0), 2)) := fun h h2 => selR_rng h h2
  have HR3 : Hid ((validS t && validB b) = true → (posIn t (q ++ [f]) && (posIn t (q ++ [e]) && decide (f ≤ e))) = true → placeS t b q f = none → selR t b q f e = ((0, 0, 0, 0), 8)) := fun h h2 h3 => selR_none h h2 h3
  have HR4 : Hid ((validS t && validB b) = true → (posIn t (q ++ [f]) && (posIn t (q ++ [e]) && decide (f ≤ e))) = true → ∀ d d', placeS t b q f = some d → placeS t b q e = some d' → selR t b q f e = ((d.x, d'.x, d.top, d.bottom), 0)) := fun h h2 d d' h3 h4 => selR_some h h2 h3 h4
  have HPB := hid (placeS_both t b q f e)
  have HQL := hid hql
  have HF64 := hid hf
  have HE64 := hid he
  generalize selR t b q f e = r at *
  clear hv htx hb hq htab hf he hql
  cases hvv : (validS t && validB b) with
  | false =>
    rw [hvv] at CV HR1
    have HR : Hid (r = ((0, 0, 0, 0), 1)) := HR1.out rfl
    clear HR1 HR2 HR3 HR4 CL0 CPL0 hvv CP HPB
    obtain ⟨hl2, hrz, hbw, hgz⟩ := KB.out W0 (Below.refl _ _)
    have m0 := hl2.node 0 _ rfl
    have m1 := hl2.node 1 _ rfl
    have m2 := hl2.node 2 _ rfl
    have m3 := hl2.node 3 _ rfl
    have n0 := hl2.box 0 _ rfl
    have n1 := hl2.box 1 _ rfl
    have n2 := hl2.box 2 _ rfl
    have n3 := hl2.box 3 _ rfl
    have n4 := hl2.box 4 _ rfl
    have n5 := hl2.box 5 _ rfl
    have n6 := hl2.box 6 _ rfl
    have n7 := hl2.box 7 _ rfl
    have n8 := hl2.box 8 _ rfl
    have n9 := hl2.box 9 _ rfl
    have n10 := hl2.box 10 _ rfl
    have r0 := hrz 0 _ rfl
    have r1 := hrz 1 _ rfl
    have r2 := hrz 2 _ rfl
    simp only [Nat.zero_add] at m0 m1 m2 m3 n0 n1 n2 n3 n4 n5 n6 n7 n8 n9 n10 r0 r1 r2
    have HBW_W0 := hid hbw
    clear hl2 hrz hbw hgz
    go_enter Tryz.func19, Tryz.ntmps19
    go_wp2_with fail
    clear hW0
    refine (CV.out _ HBW_W0.out).mono ?_
    rintro e0 w1 ⟨rfl, hb1⟩
    have HT1 := hid hb1
    clear hb1
    clear m0 m1 m2 m3 n0 n1 n2 n3 n4 n5 n6 n7 n8 n9 n10 r0 r1 r2
    obtain ⟨hl2, hrz, hbw, hgz⟩ := KB.out w1 HT1.out
    have m0 := hl2.node 0 _ rfl
    have m1 := hl2.node 1 _ rfl
    have m2 := hl2.node 2 _ rfl
    have m3 := hl2.node 3 _ rfl
    have n0 := hl2.box 0 _ rfl
    have n1 := hl2.box 1 _ rfl
    have n2 := hl2.box 2 _ rfl
    have n3 := hl2.box 3 _ rfl
    have n4 := hl2.box 4 _ rfl
    have n5 := hl2.box 5 _ rfl
    have n6 := hl2.box 6 _ rfl
    have n7 := hl2.box 7 _ rfl
    have n8 := hl2.box 8 _ rfl
    have n9 := hl2.box 9 _ rfl
    have n10 := hl2.box 10 _ rfl
    have r0 := hrz 0 _ rfl
    have r1 := hrz 1 _ rfl
    have r2 := hrz 2 _ rfl
    simp only [Nat.zero_add] at m0 m1 m2 m3 n0 n1 n2 n3 n4 n5 n6 n7 n8 n9 n10 r0 r1 r2
    have HBW_w1 := hid hbw
    clear hl2 hrz hbw hgz
    go_wp2_with fail
    refine bodyPost_ret (v := .tuple #[.int .i64 0, .int .i64 0, .int .i64 0, .int .i64 0, .int .i64 1]) (by simp [results, Tryz.results19, go_sem]) rfl ?_
    exact ⟨HBW_w1.out, by rw [HR.out]⟩
  | true =>
    have hv1 : validS t = true := by cases h : validS t <;> rw [h] at hvv <;> simp_all
    have hv2 : validB b = true := by cases h : validB b <;> rw [h] at hvv <;> simp_all
    have HRr := hid (HR2.out hvv)
    have HRn := hid (HR3.out hvv)
    have HRs := hid (HR4.out hvv)
    rw [hvv] at CV
    rw [hv1] at CP
    simp only [Bool.true_and] at CP
    have CL : Hid (∀ W, Below W0.heap.size W0 W → Calls Tryz.prog 40 #[.pointer (some ⟨w.heap.size + 1, 0, none⟩)] W (LinesRes W b)) := fun W hW => CL0.out W hW hv2
    have CPL : Hid (∀ W1 W bm x A1 c1, Below W0.heap.size W0 W1 → FoundM W (Lt W1.heap.size) bm (cntB b) (rowsB b 0 0) → Below W1.heap.size W1 W → posIn t (q ++ [x]) = true → IntsR W (Lt W.heap.size) (q ++ [x]) (.slice A1 (q.length + 1) c1) → Calls Tryz.prog 39 #[.pointer (some ⟨w.heap.size, 0, none⟩), .map (some bm), .slice A1 (q.length + 1) c1] W (PlcRes W (placeS t b q x))) := fun W1 W bm x A1 c1 h1 h2 h3 h4 h5 => CPL0.out W1 W bm x A1 c1 h1 h2 h3 hv1 hv2 h4 h5
    clear HR1 HR2 HR3 HR4 CL0 CPL0 hvv hv1 hv2
    obtain ⟨hl2, hrz, hbw, hgz⟩ := KB.out W0 (Below.refl _ _)
    have m0 := hl2.node 0 _ rfl
    have m1 := hl2.node 1 _ rfl
    have m2 := hl2.node 2 _ rfl
    have m3 := hl2.node 3 _ rfl
    have n0 := hl2.box 0 _ rfl
    have n1 := hl2.box 1 _ rfl
    have n2 := hl2.box 2 _ rfl
    have n3 := hl2.box 3 _ rfl
    have n4 := hl2.box 4 _ rfl
    have n5 := hl2.box 5 _ rfl
    have n6 := hl2.box 6 _ rfl
    have n7 := hl2.box 7 _ rfl
    have n8 := hl2.box 8 _ rfl
    have n9 := hl2.box 9 _ rfl
    have n10 := hl2.box 10 _ rfl
    have r0 := hrz 0 _ rfl
    have r1 := hrz 1 _ rfl
    have r2 := hrz 2 _ rfl
    simp only [Nat.zero_add] at m0 m1 m2 m3 n0 n1 n2 n3 n4 n5 n6 n7 n8 n9 n10 r0 r1 r2
    have HBW_W0 := hid hbw
    clear hl2 hrz hbw hgz
    go_enter Tryz.func19, Tryz.ntmps19
    go_wp2_with fail
    clear hW0
    refine (CV.out _ HBW_W0.out).mono ?_
    rintro e0 w1 ⟨rfl, hb1⟩
    have HT1 := hid hb1
    clear hb1
    clear m0 m1 m2 m3 n0 n1 n2 n3 n4 n5 n6 n7 n8 n9 n10 r0 r1 r2
    obtain ⟨hl2, hrz, hbw, hgz⟩ := KB.out w1 HT1.out
    have m0 := hl2.node 0 _ rfl
    have m1 := hl2.node 1 _ rfl
    have m2 := hl2.node 2 _ rfl
    have m3 := hl2.node 3 _ rfl
    have n0 := hl2.box 0 _ rfl
    have n1 := hl2.box 1 _ rfl
    have n2 := hl2.box 2 _ rfl
    have n3 := hl2.box 3 _ rfl
    have n4 := hl2.box 4 _ rfl
    have n5 := hl2.box 5 _ rfl
    have n6 := hl2.box 6 _ rfl
    have n7 := hl2.box 7 _ rfl
    have n8 := hl2.box 8 _ rfl
    have n9 := hl2.box 9 _ rfl
    have n10 := hl2.box 10 _ rfl
    have r0 := hrz 0 _ rfl
    have r1 := hrz 1 _ rfl
    have r2 := hrz 2 _ rfl
    simp only [Nat.zero_add] at m0 m1 m2 m3 n0 n1 n2 n3 n4 n5 n6 n7 n8 n9 n10 r0 r1 r2
    have HBW_w1 := hid hbw
    clear hl2 hrz hbw hgz
    go_upto_region 3 with fail
    have HQX : Hid (∀ W, Below w1.heap.size w1 W → IntsR W (Lt W.heap.size) q (.slice Aq q.length cq)) := fun W hW => HQX0.out W (KB.out W (bCl HT1.out hW)).2.2.1
    go_cut [11, 12] (fun u v wx => CatCut w1 q f e u v wx)
    case first =>
      clear m0 m1 m2 m3 n0 n1 n2 n3 n4 n5 n6 n7 n8 n9 n10
      have KH : Hid (∀ w', Below w1.heap.size w1 w' → w'.cell? ⟨w.heap.size + 2, 0, none⟩ = some (.slice Aq q.length cq) ∧ w'.cell? ⟨w.heap.size + 2, 1, none⟩ = some (.int .i64 f) ∧ w'.cell? ⟨w.heap.size + 2, 2, none⟩ = some (.int .i64 e)) := fun W hW => by
        obtain ⟨_, hrz, _, _⟩ := KB.out W (bCl HT1.out hW)
        have r0 := hrz 0 _ rfl
        have r1 := hrz 1 _ rfl
        have r2 := hrz 2 _ rfl
        simp only [Nat.zero_add] at r0 r1 r2
        exact ⟨r0, r1, r2⟩
      go_wp2_with fail
      go_region_held3 (fun w' => w'.cell? ⟨w.heap.size + 2, 0, none⟩ = some (.slice Aq q.length cq) ∧ w'.cell? ⟨w.heap.size + 2, 1, none⟩ = some (.int .i64 f) ∧ w'.cell? ⟨w.heap.size + 2, 2, none⟩ = some (.int .i64 e)) (first | (refine KH.out _ ?_; (repeat (first | with_reducible exact Below.refl _ _ | with_reducible exact HEB.out | with_reducible exact HB1.out | with_reducible exact HB2.out | with_reducible refine Below.drew ?_ | with_reducible refine bAl ?_ _ | fail)); done) | fail) (first
        | (go_at_call 45; (refine (conc_two _ q e Aq cq _ _ (by ((repeat (first | with_reducible exact HasObj.new _ _ _ (by first | rfl | (simp; done) | fail) | with_reducible refine HasObj.dr ?_ | with_reducible refine HasObj.al _ ?_ | with_reducible exact HC1.out _ _ (by ((repeat (first | with_reducible exact HasObj.new _ _ _ (by first | rfl | (simp; done) | fail) | with_reducible refine HasObj.dr ?_ | with_reducible refine HasObj.al _ ?_ | fail)); done)) | fail)); done)) (by ((repeat (first | with_reducible exact HasObj.new _ _ _ (by first | rfl | (simp; done) | fail) | with_reducible refine HasObj.dr ?_ | with_reducible refine HasObj.al _ ?_ | with_reducible exact HC1.out _ _ (by ((repeat (first | with_reducible exact HasObj.new _ _ _ (by first | rfl | (simp; done) | fail) | with_reducible refine HasObj.dr ?_ | with_reducible refine HasObj.al _ ?_ | fail)); done)) | fail)); done)) (HQX.out _ (bCl HB1.out (by (repeat (first | with_reducible exact Below.refl _ _ | with_reducible refine Below.drew ?_ | with_reducible refine bAl ?_ _ | fail))))) HE64.out HQL.out).mono ?_); rintro e0 wt ⟨v2, rfl, ho, hb⟩; obtain ⟨A2, c2, rfl, hi⟩ := catForm ho; have hbt := bCl (show Below wf.heap.size wf _ by (repeat (first | with_reducible exact Below.refl _ _ | with_reducible refine Below.drew ?_ | with_reducible refine bAl ?_ _ | fail))) hb; have HI2 := hid hi; have HE1 := hid (HI1.out.below hbt hbt.size); have HE2 := hid hi; have HEB : Hid (Below w1.heap.size w1 wt) := hid (bCl HB1.out hbt); clear ho hb hi hbt; obtain ⟨r0, r1, r2⟩ := KH.out wt HEB.out)
        | (go_at_call 45; (refine (conc_two _ q f Aq cq _ _ (by ((repeat (first | with_reducible exact HasObj.new _ _ _ (by first | rfl | (simp; done) | fail) | with_reducible refine HasObj.dr ?_ | with_reducible refine HasObj.al _ ?_ | with_reducible exact HC2.out _ _ (by ((repeat (first | with_reducible exact HasObj.new _ _ _ (by first | rfl | (simp; done) | fail) | with_reducible refine HasObj.dr ?_ | with_reducible refine HasObj.al _ ?_ | fail)); done)) | fail)); done)) (by ((repeat (first | with_reducible exact HasObj.new _ _ _ (by first | rfl | (simp; done) | fail) | with_reducible refine HasObj.dr ?_ | with_reducible refine HasObj.al _ ?_ | with_reducible exact HC2.out _ _ (by ((repeat (first | with_reducible exact HasObj.new _ _ _ (by first | rfl | (simp; done) | fail) | with_reducible refine HasObj.dr ?_ | with_reducible refine HasObj.al _ ?_ | fail)); done)) | fail)); done)) (HQX.out _ (bCl HB2.out (by (repeat (first | with_reducible exact Below.refl _ _ | with_reducible refine Below.drew ?_ | with_reducible refine bAl ?_ _ | fail))))) HF64.out HQL.out).mono ?_); rintro e0 wf ⟨v1, rfl, ho, hb⟩; obtain ⟨A1, c1, rfl, hi⟩ := catForm ho; have hbt := bCl (show Below wt.heap.size wt _ by (repeat (first | with_reducible exact Below.refl _ _ | with_reducible refine Below.drew ?_ | with_reducible refine bAl ?_ _ | fail))) hb; have HI1 := hid hi; have HE2 := hid (HI2.out.below hbt hbt.size); have HE1 := hid hi; have HEB : Hid (Below w1.heap.size w1 wf) := hid (bCl HB2.out hbt); clear ho hb hi hbt; obtain ⟨r0, r1, r2⟩ := KH.out wf HEB.out)
        | (go_at_call 45; (refine (conc_two _ q f Aq cq _ _ (by ((repeat (first | with_reducible exact HasObj.new _ _ _ (by first | rfl | (simp; done) | fail) | with_reducible refine HasObj.dr ?_ | with_reducible refine HasObj.al _ ?_ | fail)); done)) (by ((repeat (first | with_reducible exact HasObj.new _ _ _ (by first | rfl | (simp; done) | fail) | with_reducible refine HasObj.dr ?_ | with_reducible refine HasObj.al _ ?_ | fail)); done)) (HQX.out _ (by (repeat (first | with_reducible exact Below.refl _ _ | with_reducible refine Below.drew ?_ | with_reducible refine bAl ?_ _ | fail)))) HF64.out HQL.out).mono ?_); rintro e0 wf ⟨v1, rfl, ho, hb⟩; obtain ⟨A1, c1, rfl, hi⟩ := catForm ho; have HI1 := hid hi; have HC1 := hid (fun g o (h : HasObj _ g o) => h.below hb); have HB1 : Hid (Below w1.heap.size w1 wf) := hid (bCl (show Below w1.heap.size w1 _ by (repeat (first | with_reducible exact Below.refl _ _ | with_reducible refine Below.drew ?_ | with_reducible refine bAl ?_ _ | fail))) hb); clear ho hb hi; obtain ⟨r0, r1, r2⟩ := KH.out wf HB1.out)
        | (go_at_call 45; (refine (conc_two _ q e Aq cq _ _ (by ((repeat (first | with_reducible exact HasObj.new _ _ _ (by first | rfl | (simp; done) | fail) | with_reducible refine HasObj.dr ?_ | with_reducible refine HasObj.al _ ?_ | fail)); done)) (by ((repeat (first | with_reducible exact HasObj.new _ _ _ (by first | rfl | (simp; done) | fail) | with_reducible refine HasObj.dr ?_ | with_reducible refine HasObj.al _ ?_ | fail)); done)) (HQX.out _ (by (repeat (first | with_reducible exact Below.refl _ _ | with_reducible refine Below.drew ?_ | with_reducible refine bAl ?_ _ | fail)))) HE64.out HQL.out).mono ?_); rintro e0 wt ⟨v2, rfl, ho, hb⟩; obtain ⟨A2, c2, rfl, hi⟩ := catForm ho; have HI2 := hid hi; have HC2 := hid (fun g o (h : HasObj _ g o) => h.below hb); have HB2 : Hid (Below w1.heap.size w1 wt) := hid (bCl (show Below w1.heap.size w1 _ by (repeat (first | with_reducible exact Below.refl _ _ | with_reducible refine Below.drew ?_ | with_reducible refine bAl ?_ _ | fail))) hb); clear ho hb hi; obtain ⟨r0, r1, r2⟩ := KH.out wt HB2.out)
        | fail)
      all_goals
        go_wp2_with fail
        go_meet
        exact ⟨_, _, _, _, rfl, rfl, HE1.out, HE2.out, HEB.out⟩
    case rest =>
      obtain ⟨A1, c1, A2, c2, rfl, rfl, hi1, hi2, hbc⟩ := hcut
      have HI1 := hid hi1
      have HI2 := hid hi2
      have HTC := hid (bCl HT1.out hbc)
      clear hi1 hi2 hbc HQX
      clear m0 m1 m2 m3 n0 n1 n2 n3 n4 n5 n6 n7 n8 n9 n10 r0 r1 r2
      obtain ⟨hl2, hrz, hbw, hgz⟩ := KB.out wc HTC.out
      have m0 := hl2.node 0 _ rfl
      have m1 := hl2.node 1 _ rfl
      have m2 := hl2.node 2 _ rfl
      have m3 := hl2.node 3 _ rfl
      have n0 := hl2.box 0 _ rfl
      have n1 := hl2.box 1 _ rfl
      have n2 := hl2.box 2 _ rfl
      have n3 := hl2.box 3 _ rfl
      have n4 := hl2.box 4 _ rfl
      have n5 := hl2.box 5 _ rfl
      have n6 := hl2.box 6 _ rfl
      have n7 := hl2.box 7 _ rfl
      have n8 := hl2.box 8 _ rfl
      have n9 := hl2.box 9 _ rfl
      have n10 := hl2.box 10 _ rfl
      have r0 := hrz 0 _ rfl
      have r1 := hrz 1 _ rfl
      have r2 := hrz 2 _ rfl
      simp only [Nat.zero_add] at m0 m1 m2 m3 n0 n1 n2 n3 n4 n5 n6 n7 n8 n9 n10 r0 r1 r2
      have HBW_wc := hid hbw
      clear hl2 hrz hbw hgz
      cases hp1 : posIn t (q ++ [f]) with
      | false =>
        have CPf := hid (fun W A1 c1 h1 h2 => CP.out W f A1 c1 h1 h2)
        rw [hp1] at CPf HRr
        have HR : Hid (r = ((0, 0, 0, 0), 2)) := HRr.out rfl
        clear HRr HRn HRs CL CPL HPB hp1 CP
        go_wp2_with fail
        refine (CPf.out _ A1 c1 HBW_wc.out HI1.out).mono ?_
        rintro e0 w2 ⟨rfl, hb2⟩
        have HT2 := hid (bCl HTC.out hb2)
        have HB2 := hid hb2
        clear hb2
        clear m0 m1 m2 m3 n0 n1 n2 n3 n4 n5 n6 n7 n8 n9 n10 r0 r1 r2
        obtain ⟨hl2, hrz, hbw, hgz⟩ := KB.out w2 HT2.out
        have m0 := hl2.node 0 _ rfl
        have m1 := hl2.node 1 _ rfl
        have m2 := hl2.node 2 _ rfl
        have m3 := hl2.node 3 _ rfl
        have n0 := hl2.box 0 _ rfl
        have n1 := hl2.box 1 _ rfl
        have n2 := hl2.box 2 _ rfl
        have n3 := hl2.box 3 _ rfl
        have n4 := hl2.box 4 _ rfl
        have n5 := hl2.box 5 _ rfl
        have n6 := hl2.box 6 _ rfl
        have n7 := hl2.box 7 _ rfl
        have n8 := hl2.box 8 _ rfl
        have n9 := hl2.box 9 _ rfl
        have n10 := hl2.box 10 _ rfl
        have r0 := hrz 0 _ rfl
        have r1 := hrz 1 _ rfl
        have r2 := hrz 2 _ rfl
        simp only [Nat.zero_add] at m0 m1 m2 m3 n0 n1 n2 n3 n4 n5 n6 n7 n8 n9 n10 r0 r1 r2
        have HBW_w2 := hid hbw
        clear hl2 hrz hbw hgz
        go_wp2_with fail
        refine bodyPost_ret (v := .tuple #[.int .i64 0, .int .i64 0, .int .i64 0, .int .i64 0, .int .i64 2]) (by simp [results, Tryz.results19, go_sem]) rfl ?_
        exact ⟨HBW_w2.out, by rw [HR.out]⟩
      | true =>
        have CPf := hid (fun W A1 c1 h1 h2 => CP.out W f A1 c1 h1 h2)
        have CPLf := hid (fun W1 W bm A1 c1 h1 h2 h3 h5 => CPL.out W1 W bm f A1 c1 h1 h2 h3 hp1 h5)
        rw [hp1] at CPf HRr HRn HRs
        simp only [Bool.true_and] at HRr HRn HRs
        clear hp1
        cases hp2 : posIn t (q ++ [e]) with
        | false =>
          have CPe := hid (fun W A1 c1 h1 h2 => CP.out W e A1 c1 h1 h2)
          rw [hp2] at CPe HRr
          have HR : Hid (r = ((0, 0, 0, 0), 2)) := HRr.out rfl
          clear HRr HRn HRs CL CPL CPLf HPB hp2 CP
          go_wp2_with fail
          refine (CPf.out _ A1 c1 HBW_wc.out HI1.out).mono ?_
          rintro e0 w2 ⟨rfl, hb2⟩
          have HT2 := hid (bCl HTC.out hb2)
          have HB2 := hid hb2
          clear hb2
          clear m0 m1 m2 m3 n0 n1 n2 n3 n4 n5 n6 n7 n8 n9 n10 r0 r1 r2
          obtain ⟨hl2, hrz, hbw, hgz⟩ := KB.out w2 HT2.out
          have m0 := hl2.node 0 _ rfl
          have m1 := hl2.node 1 _ rfl
          have m2 := hl2.node 2 _ rfl
          have m3 := hl2.node 3 _ rfl
          have n0 := hl2.box 0 _ rfl
          have n1 := hl2.box 1 _ rfl
          have n2 := hl2.box 2 _ rfl
          have n3 := hl2.box 3 _ rfl
          have n4 := hl2.box 4 _ rfl
          have n5 := hl2.box 5 _ rfl
          have n6 := hl2.box 6 _ rfl
          have n7 := hl2.box 7 _ rfl
          have n8 := hl2.box 8 _ rfl
          have n9 := hl2.box 9 _ rfl
          have n10 := hl2.box 10 _ rfl
          have r0 := hrz 0 _ rfl
          have r1 := hrz 1 _ rfl
          have r2 := hrz 2 _ rfl
          simp only [Nat.zero_add] at m0 m1 m2 m3 n0 n1 n2 n3 n4 n5 n6 n7 n8 n9 n10 r0 r1 r2
          have HBW_w2 := hid hbw
          clear hl2 hrz hbw hgz
          go_wp2_with fail
          refine (CPe.out _ A2 c2 HBW_w2.out (HI2.out.below HB2.out HB2.out.size)).mono ?_
          rintro e0 w3 ⟨rfl, hb3⟩
          have HT3 := hid (bCl HT2.out hb3)
          have HB3 := hid (bCl HB2.out hb3)
          clear hb3
          clear m0 m1 m2 m3 n0 n1 n2 n3 n4 n5 n6 n7 n8 n9 n10 r0 r1 r2
          obtain ⟨hl2, hrz, hbw, hgz⟩ := KB.out w3 HT3.out
          have m0 := hl2.node 0 _ rfl
          have m1 := hl2.node 1 _ rfl
          have m2 := hl2.node 2 _ rfl
          have m3 := hl2.node 3 _ rfl
          have n0 := hl2.box 0 _ rfl
          have n1 := hl2.box 1 _ rfl
          have n2 := hl2.box 2 _ rfl
          have n3 := hl2.box 3 _ rfl
          have n4 := hl2.box 4 _ rfl
          have n5 := hl2.box 5 _ rfl
          have n6 := hl2.box 6 _ rfl
          have n7 := hl2.box 7 _ rfl
          have n8 := hl2.box 8 _ rfl
          have n9 := hl2.box 9 _ rfl
          have n10 := hl2.box 10 _ rfl
          have r0 := hrz 0 _ rfl
          have r1 := hrz 1 _ rfl
          have r2 := hrz 2 _ rfl
          simp only [Nat.zero_add] at m0 m1 m2 m3 n0 n1 n2 n3 n4 n5 n6 n7 n8 n9 n10 r0 r1 r2
          have HBW_w3 := hid hbw
          clear hl2 hrz hbw hgz
          go_wp2_with fail
          refine bodyPost_ret (v := .tuple #[.int .i64 0, .int .i64 0, .int .i64 0, .int .i64 0, .int .i64 2]) (by simp [results, Tryz.results19, go_sem]) rfl ?_
          exact ⟨HBW_w3.out, by rw [HR.out]⟩
        | true =>
          have CPe := hid (fun W A1 c1 h1 h2 => CP.out W e A1 c1 h1 h2)
          have CPLe := hid (fun W1 W bm A1 c1 h1 h2 h3 h5 => CPL.out W1 W bm e A1 c1 h1 h2 h3 hp2 h5)
          rw [hp2] at CPe HRr HRn HRs
          simp only [Bool.true_and] at HRr HRn HRs
          clear hp2 CP CPL
          by_cases hfe : f ≤ e
          case neg =>
            have HR : Hid (r = ((0, 0, 0, 0), 2)) := HRr.out (decide_eq_false hfe)
            have i1 : decide (e < f) = true := decide_eq_true (by omega)
            clear HRr HRn HRs CL CPLf CPLe HPB hfe
            go_wp2_with fail
            refine (CPf.out _ A1 c1 HBW_wc.out HI1.out).mono ?_
            rintro e0 w2 ⟨rfl, hb2⟩
            have HT2 := hid (bCl HTC.out hb2)
            have HB2 := hid hb2
            clear hb2
            clear m0 m1 m2 m3 n0 n1 n2 n3 n4 n5 n6 n7 n8 n9 n10 r0 r1 r2
            obtain ⟨hl2, hrz, hbw, hgz⟩ := KB.out w2 HT2.out
            have m0 := hl2.node 0 _ rfl
            have m1 := hl2.node 1 _ rfl
            have m2 := hl2.node 2 _ rfl
            have m3 := hl2.node 3 _ rfl
            have n0 := hl2.box 0 _ rfl
            have n1 := hl2.box 1 _ rfl
            have n2 := hl2.box 2 _ rfl
            have n3 := hl2.box 3 _ rfl
            have n4 := hl2.box 4 _ rfl
            have n5 := hl2.box 5 _ rfl
            have n6 := hl2.box 6 _ rfl
            have n7 := hl2.box 7 _ rfl
            have n8 := hl2.box 8 _ rfl
            have n9 := hl2.box 9 _ rfl
            have n10 := hl2.box 10 _ rfl
            have r0 := hrz 0 _ rfl
            have r1 := hrz 1 _ rfl
            have r2 := hrz 2 _ rfl
            simp only [Nat.zero_add] at m0 m1 m2 m3 n0 n1 n2 n3 n4 n5 n6 n7 n8 n9 n10 r0 r1 r2
            have HBW_w2 := hid hbw
            clear hl2 hrz hbw hgz
            go_wp2_with fail
            refine (CPe.out _ A2 c2 HBW_w2.out (HI2.out.below HB2.out HB2.out.size)).mono ?_
            rintro e0 w3 ⟨rfl, hb3⟩
            have HT3 := hid (bCl HT2.out hb3)
            have HB3 := hid (bCl HB2.out hb3)
            clear hb3
            clear m0 m1 m2 m3 n0 n1 n2 n3 n4 n5 n6 n7 n8 n9 n10 r0 r1 r2
            obtain ⟨hl2, hrz, hbw, hgz⟩ := KB.out w3 HT3.out
            have m0 := hl2.node 0 _ rfl
            have m1 := hl2.node 1 _ rfl
            have m2 := hl2.node 2 _ rfl
            have m3 := hl2.node 3 _ rfl
            have n0 := hl2.box 0 _ rfl
            have n1 := hl2.box 1 _ rfl
            have n2 := hl2.box 2 _ rfl
            have n3 := hl2.box 3 _ rfl
            have n4 := hl2.box 4 _ rfl
            have n5 := hl2.box 5 _ rfl
            have n6 := hl2.box 6 _ rfl
            have n7 := hl2.box 7 _ rfl
            have n8 := hl2.box 8 _ rfl
            have n9 := hl2.box 9 _ rfl
            have n10 := hl2.box 10 _ rfl
            have r0 := hrz 0 _ rfl
            have r1 := hrz 1 _ rfl
            have r2 := hrz 2 _ rfl
            simp only [Nat.zero_add] at m0 m1 m2 m3 n0 n1 n2 n3 n4 n5 n6 n7 n8 n9 n10 r0 r1 r2
            have HBW_w3 := hid hbw
            clear hl2 hrz hbw hgz
            go_wp2_with fail
            refine bodyPost_ret (v := .tuple #[.int .i64 0, .int .i64 0, .int .i64 0, .int .i64 0, .int .i64 2]) (by simp [results, Tryz.results19, go_sem]) rfl ?_
            exact ⟨HBW_w3.out, by rw [HR.out]⟩
          case pos =>
            have HRN : Hid (placeS t b q f = none → r = ((0, 0, 0, 0), 8)) := HRn.out (decide_eq_true hfe)
            have HRS := hid (HRs.out (decide_eq_true hfe))
            have i1 : decide (e < f) = false := decide_eq_false (by omega)
            clear HRr HRn HRs hfe
            go_wp2_with fail
            refine (CPf.out _ A1 c1 HBW_wc.out HI1.out).mono ?_
            rintro e0 w2 ⟨rfl, hb2⟩
            have HT2 := hid (bCl HTC.out hb2)
            have HB2 := hid hb2
            clear hb2
            clear m0 m1 m2 m3 n0 n1 n2 n3 n4 n5 n6 n7 n8 n9 n10 r0 r1 r2
            obtain ⟨hl2, hrz, hbw, hgz⟩ := KB.out w2 HT2.out
            have m0 := hl2.node 0 _ rfl
            have m1 := hl2.node 1 _ rfl
            have m2 := hl2.node 2 _ rfl
            have m3 := hl2.node 3 _ rfl
            have n0 := hl2.box 0 _ rfl
            have n1 := hl2.box 1 _ rfl
            have n2 := hl2.box 2 _ rfl
            have n3 := hl2.box 3 _ rfl
            have n4 := hl2.box 4 _ rfl
            have n5 := hl2.box 5 _ rfl
            have n6 := hl2.box 6 _ rfl
            have n7 := hl2.box 7 _ rfl
            have n8 := hl2.box 8 _ rfl
            have n9 := hl2.box 9 _ rfl
            have n10 := hl2.box 10 _ rfl
            have r0 := hrz 0 _ rfl
            have r1 := hrz 1 _ rfl
            have r2 := hrz 2 _ rfl
            simp only [Nat.zero_add] at m0 m1 m2 m3 n0 n1 n2 n3 n4 n5 n6 n7 n8 n9 n10 r0 r1 r2
            have HBW_w2 := hid hbw
            clear hl2 hrz hbw hgz
            go_wp2_with fail
            refine (CPe.out _ A2 c2 HBW_w2.out (HI2.out.below HB2.out HB2.out.size)).mono ?_
            rintro e0 w3 ⟨rfl, hb3⟩
            have HT3 := hid (bCl HT2.out hb3)
            have HB3 := hid (bCl HB2.out hb3)
            clear hb3
            clear m0 m1 m2 m3 n0 n1 n2 n3 n4 n5 n6 n7 n8 n9 n10 r0 r1 r2
            obtain ⟨hl2, hrz, hbw, hgz⟩ := KB.out w3 HT3.out
            have m0 := hl2.node 0 _ rfl
            have m1 := hl2.node 1 _ rfl
            have m2 := hl2.node 2 _ rfl
            have m3 := hl2.node 3 _ rfl
            have n0 := hl2.box 0 _ rfl
            have n1 := hl2.box 1 _ rfl
            have n2 := hl2.box 2 _ rfl
            have n3 := hl2.box 3 _ rfl
            have n4 := hl2.box 4 _ rfl
            have n5 := hl2.box 5 _ rfl
            have n6 := hl2.box 6 _ rfl
            have n7 := hl2.box 7 _ rfl
            have n8 := hl2.box 8 _ rfl
            have n9 := hl2.box 9 _ rfl
            have n10 := hl2.box 10 _ rfl
            have r0 := hrz 0 _ rfl
            have r1 := hrz 1 _ rfl
            have r2 := hrz 2 _ rfl
            simp only [Nat.zero_add] at m0 m1 m2 m3 n0 n1 n2 n3 n4 n5 n6 n7 n8 n9 n10 r0 r1 r2
            have HBW_w3 := hid hbw
            clear hl2 hrz hbw hgz
            go_wp2_with fail
            refine (CL.out _ HT3.out).mono ?_
            rintro e0 w4 ⟨bm, rfl, hbm, hfm, hb4⟩
            have HT4 := hid (bCl HT3.out hb4)
            have HB4 := hid (bCl HB3.out hb4)
            have C1X : Hid (Calls Tryz.prog 39 #[.pointer (some ⟨w.heap.size, 0, none⟩), .map (some bm), .slice A1 (q.length + 1) c1] w4 (PlcRes w4 (placeS t b q f))) := CPLf.out w3 w4 bm A1 c1 HT3.out hfm hb4 (HI1.out.below (bCl HB3.out hb4) (bCl HB3.out hb4).size)
            have C2X : Hid (∀ W, Below w4.heap.size w4 W → Calls Tryz.prog 39 #[.pointer (some ⟨w.heap.size, 0, none⟩), .map (some bm), .slice A2 (q.length + 1) c2] W (PlcRes W (placeS t b q e))) := fun W hW => by
              have hlt := hfm.lt
              have hbb := bCl (bCl HB3.out hb4) hW
              exact CPLe.out w3 W bm A2 c2 HT3.out (hfm.only hW hlt (fun k hk => Nat.lt_of_lt_of_le hk hb4.size)) (hb4.trans (hW.mono hb4.size)) (HI2.out.below hbb hbb.size)
            clear hb4 hfm hbm CPLf CPLe
            clear m0 m1 m2 m3 n0 n1 n2 n3 n4 n5 n6 n7 n8 n9 n10 r0 r1 r2
            obtain ⟨hl2, hrz, hbw, hgz⟩ := KB.out w4 HT4.out
            have m0 := hl2.node 0 _ rfl
            have m1 := hl2.node 1 _ rfl
            have m2 := hl2.node 2 _ rfl
            have m3 := hl2.node 3 _ rfl
            have n0 := hl2.box 0 _ rfl
            have n1 := hl2.box 1 _ rfl
            have n2 := hl2.box 2 _ rfl
            have n3 := hl2.box 3 _ rfl
            have n4 := hl2.box 4 _ rfl
            have n5 := hl2.box 5 _ rfl
            have n6 := hl2.box 6 _ rfl
            have n7 := hl2.box 7 _ rfl
            have n8 := hl2.box 8 _ rfl
            have n9 := hl2.box 9 _ rfl
            have n10 := hl2.box 10 _ rfl
            have r0 := hrz 0 _ rfl
            have r1 := hrz 1 _ rfl
            have r2 := hrz 2 _ rfl
            simp only [Nat.zero_add] at m0 m1 m2 m3 n0 n1 n2 n3 n4 n5 n6 n7 n8 n9 n10 r0 r1 r2
            have HBW_w4 := hid hbw
            clear hl2 hrz hbw hgz
            obtain ⟨g1, g2⟩ | ⟨d, d', g1, g2⟩ := HPB.out
            · have HR : Hid (r = ((0, 0, 0, 0), 8)) := HRN.out g1
              rw [g1] at C1X
              clear HRN HRS g1 g2 HPB C2X
              go_wp2_with fail
              refine C1X.out.mono ?_
              rintro e0 w5 ⟨hb5, ⟨_, rfl⟩ | ⟨d, v, h, _⟩⟩
              case inr => cases h
              have HT5 := hid (bCl HT4.out hb5)
              clear hb5
              clear m0 m1 m2 m3 n0 n1 n2 n3 n4 n5 n6 n7 n8 n9 n10 r0 r1 r2
              go_wp2_with fail
              refine bodyPost_ret (v := .tuple #[.int .i64 0, .int .i64 0, .int .i64 0, .int .i64 0, .int .i64 8]) (by simp [results, Tryz.results19, go_sem]) rfl ?_
              exact ⟨bAl (KB.out _ HT5.out).2.2.1 _, by rw [HR.out]⟩
            · have HR : Hid (r = ((d.x, d'.x, d.top, d.bottom), 0)) := HRS.out d d' g1 g2
              rw [g1] at C1X
              rw [g2] at C2X
              clear HRN HRS g1 g2 HPB
              go_wp2_with fail
              refine C1X.out.mono ?_
              rintro e0 w5 ⟨hb5, ⟨h, _⟩ | ⟨d1, v1, h, rfl, hi5⟩⟩
              case inl => cases h
              cases h
              obtain ⟨A5, c5, rfl⟩ := hi5.form
              have HT5 := hid (bCl HT4.out hb5)
              have HB5 := hid hb5
              clear hb5 hi5
              clear m0 m1 m2 m3 n0 n1 n2 n3 n4 n5 n6 n7 n8 n9 n10 r0 r1 r2
              go_upto_region 8 with fail
              obtain ⟨X5, hX5⟩ : ∃ W, w5.alloc (.cells #[.slice A5 d.pos.length c5, .int .i64 d.x, .int .i64 d.top, .int .i64 d.bottom] 32) = W := ⟨_, rfl⟩
              have hx5 : BoxL X5 w5.heap.size 0 [.slice A5 d.pos.length c5, .int .i64 d.x, .int .i64 d.top, .int .i64 d.bottom] ∧ w5.heap.size < X5.heap.size := by rw [← hX5]; exact ⟨BoxL.new _ _ _ _ rfl _ rfl, by simp⟩
              have hb5 : Below w5.heap.size w5 X5 := by rw [← hX5]; exact bNew _ _
              have HTX := hid (bCl HT5.out hb5)
              have HBX := hid (bCl HB5.out hb5)
              have HX5 := hid hx5
              rw [hX5]
              clear hX5 hb5 hx5
              go_wp2_with fail
              refine (C2X.out _ HBX.out).mono ?_
              rintro e0 w6 ⟨hb6, ⟨h, _⟩ | ⟨d1, v1, h, rfl, hi6⟩⟩
              case inl => cases h
              cases h
              obtain ⟨A6, c6, rfl⟩ := hi6.form
              have HT6 := hid (bCl HTX.out hb6)
              have HB6 := hid hb6
              clear hb6 hi6
              go_upto_region 11 with fail
              obtain ⟨X6, hX6⟩ : ∃ W, w6.alloc (.cells #[.slice A6 d'.pos.length c6, .int .i64 d'.x, .int .i64 d'.top, .int .i64 d'.bottom] 32) = W := ⟨_, rfl⟩
              have hx6 : BoxL X6 w6.heap.size 0 [.slice A6 d'.pos.length c6, .int .i64 d'.x, .int .i64 d'.top, .int .i64 d'.bottom] := by rw [← hX6]; exact BoxL.new _ _ _ _ rfl _ rfl
              have hb6 : Below w6.heap.size w6 X6 := by rw [← hX6]; exact bNew _ _
              have HTY := hid (bCl HT6.out hb6)
              have hy5 := HX5.out.1.below (bCl HB6.out hb6) HX5.out.2
              have x0 := hy5 0 _ rfl
              have x1 := hy5 1 _ rfl
              have x2 := hy5 2 _ rfl
              have x3 := hy5 3 _ rfl
              have y0 := hx6 0 _ rfl
              have y1 := hx6 1 _ rfl
              have y2 := hx6 2 _ rfl
              have y3 := hx6 3 _ rfl
              simp only [Nat.zero_add] at x0 x1 x2 x3 y0 y1 y2 y3
              rw [hX6]
              clear hX6 hb6 hx6 hy5
              go_quiet (fail)
              go_wp2_with fail
              refine bodyPost_ret (v := .tuple #[.int .i64 d.x, .int .i64 d'.x, .int .i64 d.top, .int .i64 d.bottom, .int .i64 0]) (by simp [results, Tryz.results19, go_sem]) rfl ?_
              exact ⟨bDn (KB.out _ HTY.out).2.2.1 _, by rw [HR.out]⟩
end Go.Proofs.YtmahiejfniaahaaGreatDoor
