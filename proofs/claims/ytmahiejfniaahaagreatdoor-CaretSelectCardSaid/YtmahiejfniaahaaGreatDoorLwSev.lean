/- CaretSelect. Written by wip/genslt.py. -/
import Derived.Test.YtmahiejfniaahaaGreatDoorCSelv
import Derived.Test.YtmahiejfniaahaaGreatDoorRSelv
import Derived.Test.YtmahiejfniaahaaGreatDoorHK
set_option linter.unusedVariables false
set_option linter.unusedSimpArgs false
set_option maxRecDepth 100000
namespace Go.Proofs.YtmahiejfniaahaaGreatDoor
open Go.RowKit

theorem arrU4 : Tryz.prog.underlying 52 = some (.array 4 3) := by kernel_rfl
theorem part4 (x y u v : Int) (w : World) : (part 3 #[.int .i64 x, .int .i64 y, .int .i64 u, .int .i64 v] 0).run Tryz.prog w = .ok (.int .i64 x) w ∧ (part 3 #[.int .i64 x, .int .i64 y, .int .i64 u, .int .i64 v] 1).run Tryz.prog w = .ok (.int .i64 y) w ∧ (part 3 #[.int .i64 x, .int .i64 y, .int .i64 u, .int .i64 v] 2).run Tryz.prog w = .ok (.int .i64 u) w ∧ (part 3 #[.int .i64 x, .int .i64 y, .int .i64 u, .int .i64 v] 3).run Tryz.prog w = .ok (.int .i64 v) w := ⟨by kernel_rfl, by kernel_rfl, by kernel_rfl, by kernel_rfl⟩
theorem arr_eq4 (x y u v : Int) (w : World) : (Op.equalIn 10000 52 (.agg #[.int .i64 x, .int .i64 y, .int .i64 u, .int .i64 v]) (.agg #[.int .i64 x, .int .i64 y, .int .i64 u, .int .i64 v])).run Tryz.prog w = .ok true w := by
  have h3 : Tryz.prog.underlying 3 = some (.int .i64) := by kernel_rfl
  have e1 := fun (d : Nat) (a b : Int) (w : World) => run_equalIn_int (P := Tryz.prog) w d 3 .i64 .i64 a b h3
  rw [show (10000 : Nat) = 9998 + 1 + 1 from rfl]
  simp [Op.equalIn.eq_def (9998 + 1 + 1), run_underlying arrU4, size_int, intE, Std.Legacy.Range.forIn_eq_forIn_range', Std.Legacy.Range.size, List.range', part4, e1]

set_option maxHeartbeats 8000000 in
theorem CaretSelect_walk (t : Tree) (b : Bx) (q : List Int) (f e : Int) (A Ak As Aq : Option Addr) (cap ck cs cq : Nat) (w : World) (hv : SliceR treeE w (Lt w.heap.size) t.kids (.slice A t.kids.length cap)) (hok : NodeOk t) (hb : BoxIn w b Ak As ck cs) (hq : IntsR w (Lt w.heap.size) q (.slice Aq q.length cq)) (hf : In64 f) (he : In64 e) (htab : TabOk w) :
    Calls Tryz.prog 5 #[nodeV t A cap, boxV b Ak As ck cs, .agg #[.slice Aq q.length cq, .int .i64 f, .int .i64 e]] w fun e w' => e = .returned (.bool true) ∧ Below w.heap.size w w' := by
  have HTAB := hid htab
  have CAW : Hid (∀ W, Below w.heap.size w W → Calls Tryz.prog 11 #[] W fun e w' => e = .returned (.bool true) ∧ Below W.heap.size W w') := fun W hW => awake40_any W (HTAB.out.below hW)
  have CFW : Hid (∀ W, Below w.heap.size w W → Calls Tryz.prog 12 #[nodeV t A cap, boxV b Ak As ck cs] W fun e w' => e = .returned (.bool (few40S t b)) ∧ Below W.heap.size W w') := fun W hW => few40_any t b A Ak As cap ck cs W (hv.below hW hW.size) (hb.below hW)
  generalize hW0 : ((w.alloc (Obj.cells #[.int .i64 t.kind, .string t.text, .int .i64 t.cols, .slice A t.kids.length cap] 24)).alloc (Obj.cells (boxC b.f (.slice Ak b.kids.length ck) (.slice As b.f.src.length cs)) 28)).alloc (.cells #[.slice Aq q.length cq, .int .i64 f, .int .i64 e] 49) = W0
  have KB : Hid (∀ W, Below W0.heap.size W0 W → Laid2 W w.heap.size w.heap.size t b A Ak As cap ck cs ∧ BoxL W (w.heap.size + 2) 0 [.slice Aq q.length cq, .int .i64 f, .int .i64 e] ∧ Below w.heap.size w W ∧ w.heap.size + 2 < W.heap.size) := fun W hW => by
    have hz0 : W0.heap.size = w.heap.size + 3 := by rw [← hW0]; simp
    have h1 := Laid2.new w t b A Ak As cap ck cs 24 28 hv hb
    have h2 := h1.below (bNew _ (.cells #[.slice Aq q.length cq, .int .i64 f, .int .i64 e] 49)) (by simp) (by simp <;> omega)
    have h3 : Below w.heap.size w W0 := by rw [← hW0]; exact bAl (bAl (bNew _ _) _) _
    have h4 : BoxL W0 (w.heap.size + 2) 0 [.slice Aq q.length cq, .int .i64 f, .int .i64 e] := by rw [← hW0]; exact BoxL.new _ _ _ _ (by simp) _ rfl
    rw [hW0] at h2
    exact ⟨h2.below hW (by omega) (by omega), h4.below hW (by omega), h3.trans (hW.mono h3.size), by have := hW.size; omega⟩
  have CP1 : Hid (few40S t b = true → q.length ≤ 60 → ∀ W, Below w.heap.size w W → Calls Tryz.prog 19 #[nodeV t A cap, boxV b Ak As ck cs, .agg #[.slice Aq q.length cq, .int .i64 f, .int .i64 e]] W (SelRes W (selR t b q f e))) := fun h hl W hW => csel_any t b q f e A Ak As Aq cap ck cs cq W (hv.below hW hW.size) hok.2.2 (hb.below hW) (hq.below hW hW.size) hf he (by omega) (HTAB.out.below hW)
  have CP2 : Hid (few40S t b = true → q.length ≤ 60 → ∀ W, Below w.heap.size w W → Calls Tryz.prog 20 #[nodeV t A cap, boxV b Ak As ck cs, .agg #[.slice Aq q.length cq, .int .i64 f, .int .i64 e]] W (RSelRes W (selR t b q f e))) := fun h hl W hW => by
    obtain ⟨h1, h2⟩ := few40_cnt h
    exact rsel_any t b q f e A Ak As Aq cap ck cs cq W (hv.below hW hW.size) hok.2.2 (by omega) (hb.below hW) (by omega) (hq.below hW hW.size) hf he (by omega)
  have hql := hq.lens
  unfold maxLen at hql
  generalize selR t b q f e = r at *
  clear hv hok hb hq htab hf he
  cases hf40 : few40S t b with
  | false =>
    rw [hf40] at CFW
    clear hf40 CP1 CP2
    obtain ⟨hl2, hrz, hbw, hgz⟩ := KB.out W0 (Below.refl _ _)
    have m0 := hl2.node 0 _ rfl
    have m1 := hl2.node 1 _ rfl
    have m2 := hl2.node 2 _ rfl
    have m3 := hl2.node 3 _ rfl
    have n0 := hl2.box 0 _ rfl
    have n1 := hl2.box 1 _ rfl
    have n2 := hl2.box 2 _ rfl
    have n3 := hl2.box 3 _ rfl
    have n4 := hl2.box 4 _ rfl
    have n5 := hl2.box 5 _ rfl
    have n6 := hl2.box 6 _ rfl
    have n7 := hl2.box 7 _ rfl
    have n8 := hl2.box 8 _ rfl
    have n9 := hl2.box 9 _ rfl
    have n10 := hl2.box 10 _ rfl
    have r0 := hrz 0 _ rfl
    have r1 := hrz 1 _ rfl
    have r2 := hrz 2 _ rfl
    simp only [Nat.zero_add] at m0 m1 m2 m3 n0 n1 n2 n3 n4 n5 n6 n7 n8 n9 n10 r0 r1 r2
    have HBW_W0 := hid hbw
    clear hl2 hrz hbw hgz
    go_enter Tryz.func5, Tryz.ntmps5
    go_wp2_with fail
    clear hW0
    refine (CAW.out _ HBW_W0.out).mono ?_
    rintro e0 w1 ⟨rfl, hb1⟩
    have HT1 := hid hb1
    clear hb1
    clear m0 m1 m2 m3 n0 n1 n2 n3 n4 n5 n6 n7 n8 n9 n10 r0 r1 r2
    obtain ⟨hl2, hrz, hbw, hgz⟩ := KB.out w1 HT1.out
    have m0 := hl2.node 0 _ rfl
    have m1 := hl2.node 1 _ rfl
    have m2 := hl2.node 2 _ rfl
    have m3 := hl2.node 3 _ rfl
    have n0 := hl2.box 0 _ rfl
    have n1 := hl2.box 1 _ rfl
    have n2 := hl2.box 2 _ rfl
    have n3 := hl2.box 3 _ rfl
    have n4 := hl2.box 4 _ rfl
    have n5 := hl2.box 5 _ rfl
    have n6 := hl2.box 6 _ rfl
    have n7 := hl2.box 7 _ rfl
    have n8 := hl2.box 8 _ rfl
    have n9 := hl2.box 9 _ rfl
    have n10 := hl2.box 10 _ rfl
    have r0 := hrz 0 _ rfl
    have r1 := hrz 1 _ rfl
    have r2 := hrz 2 _ rfl
    simp only [Nat.zero_add] at m0 m1 m2 m3 n0 n1 n2 n3 n4 n5 n6 n7 n8 n9 n10 r0 r1 r2
    have HBW_w1 := hid hbw
    clear hl2 hrz hbw hgz
    go_wp2_with fail
    refine (CFW.out _ HBW_w1.out).mono ?_
    rintro e0 w2 ⟨rfl, hb2⟩
    have HT2 := hid (bCl HT1.out hb2)
    clear hb2
    clear m0 m1 m2 m3 n0 n1 n2 n3 n4 n5 n6 n7 n8 n9 n10 r0 r1 r2
    obtain ⟨hl2, hrz, hbw, hgz⟩ := KB.out w2 HT2.out
    have m0 := hl2.node 0 _ rfl
    have m1 := hl2.node 1 _ rfl
    have m2 := hl2.node 2 _ rfl
    have m3 := hl2.node 3 _ rfl
    have n0 := hl2.box 0 _ rfl
    have n1 := hl2.box 1 _ rfl
    have n2 := hl2.box 2 _ rfl
    have n3 := hl2.box 3 _ rfl
    have n4 := hl2.box 4 _ rfl
    have n5 := hl2.box 5 _ rfl
    have n6 := hl2.box 6 _ rfl
    have n7 := hl2.box 7 _ rfl
    have n8 := hl2.box 8 _ rfl
    have n9 := hl2.box 9 _ rfl
    have n10 := hl2.box 10 _ rfl
    have r0 := hrz 0 _ rfl
    have r1 := hrz 1 _ rfl
    have r2 := hrz 2 _ rfl
    simp only [Nat.zero_add] at m0 m1 m2 m3 n0 n1 n2 n3 n4 n5 n6 n7 n8 n9 n10 r0 r1 r2
    have HBW_w2 := hid hbw
    clear hl2 hrz hbw hgz
    go_wp2_with fail
    go_ret
    exact ⟨rfl, HBW_w2.out⟩
  | true =>
    rw [hf40] at CFW
    have C1 := hid (CP1.out hf40)
    have C2 := hid (CP2.out hf40)
    clear hf40 CP1 CP2
    by_cases hl : 60 < q.length
    · have i1 : decide ((60 : Int) < (q.length : Int)) = true := by rw [decide_eq_true_eq]; omega
      have i2 : decide (60 < q.length) = true := decide_eq_true hl
      clear C1 C2 hl
      obtain ⟨hl2, hrz, hbw, hgz⟩ := KB.out W0 (Below.refl _ _)
      have m0 := hl2.node 0 _ rfl
      have m1 := hl2.node 1 _ rfl
      have m2 := hl2.node 2 _ rfl
      have m3 := hl2.node 3 _ rfl
      have n0 := hl2.box 0 _ rfl
      have n1 := hl2.box 1 _ rfl
      have n2 := hl2.box 2 _ rfl
      have n3 := hl2.box 3 _ rfl
      have n4 := hl2.box 4 _ rfl
      have n5 := hl2.box 5 _ rfl
      have n6 := hl2.box 6 _ rfl
      have n7 := hl2.box 7 _ rfl
      have n8 := hl2.box 8 _ rfl
      have n9 := hl2.box 9 _ rfl
      have n10 := hl2.box 10 _ rfl
      have r0 := hrz 0 _ rfl
      have r1 := hrz 1 _ rfl
      have r2 := hrz 2 _ rfl
      simp only [Nat.zero_add] at m0 m1 m2 m3 n0 n1 n2 n3 n4 n5 n6 n7 n8 n9 n10 r0 r1 r2
      have HBW_W0 := hid hbw
      clear hl2 hrz hbw hgz
      go_enter Tryz.func5, Tryz.ntmps5
      go_wp2_with fail
      clear hW0
      refine (CAW.out _ HBW_W0.out).mono ?_
      rintro e0 w1 ⟨rfl, hb1⟩
      have HT1 := hid hb1
      clear hb1
      clear m0 m1 m2 m3 n0 n1 n2 n3 n4 n5 n6 n7 n8 n9 n10 r0 r1 r2
      obtain ⟨hl2, hrz, hbw, hgz⟩ := KB.out w1 HT1.out
      have m0 := hl2.node 0 _ rfl
      have m1 := hl2.node 1 _ rfl
      have m2 := hl2.node 2 _ rfl
      have m3 := hl2.node 3 _ rfl
      have n0 := hl2.box 0 _ rfl
      have n1 := hl2.box 1 _ rfl
      have n2 := hl2.box 2 _ rfl
      have n3 := hl2.box 3 _ rfl
      have n4 := hl2.box 4 _ rfl
      have n5 := hl2.box 5 _ rfl
      have n6 := hl2.box 6 _ rfl
      have n7 := hl2.box 7 _ rfl
      have n8 := hl2.box 8 _ rfl
      have n9 := hl2.box 9 _ rfl
      have n10 := hl2.box 10 _ rfl
      have r0 := hrz 0 _ rfl
      have r1 := hrz 1 _ rfl
      have r2 := hrz 2 _ rfl
      simp only [Nat.zero_add] at m0 m1 m2 m3 n0 n1 n2 n3 n4 n5 n6 n7 n8 n9 n10 r0 r1 r2
      have HBW_w1 := hid hbw
      clear hl2 hrz hbw hgz
      go_wp2_with fail
      refine (CFW.out _ HBW_w1.out).mono ?_
      rintro e0 w2 ⟨rfl, hb2⟩
      have HT2 := hid (bCl HT1.out hb2)
      clear hb2
      clear m0 m1 m2 m3 n0 n1 n2 n3 n4 n5 n6 n7 n8 n9 n10 r0 r1 r2
      obtain ⟨hl2, hrz, hbw, hgz⟩ := KB.out w2 HT2.out
      have m0 := hl2.node 0 _ rfl
      have m1 := hl2.node 1 _ rfl
      have m2 := hl2.node 2 _ rfl
      have m3 := hl2.node 3 _ rfl
      have n0 := hl2.box 0 _ rfl
      have n1 := hl2.box 1 _ rfl
      have n2 := hl2.box 2 _ rfl
      have n3 := hl2.box 3 _ rfl
      have n4 := hl2.box 4 _ rfl
      have n5 := hl2.box 5 _ rfl
      have n6 := hl2.box 6 _ rfl
      have n7 := hl2.box 7 _ rfl
      have n8 := hl2.box 8 _ rfl
      have n9 := hl2.box 9 _ rfl
      have n10 := hl2.box 10 _ rfl
      have r0 := hrz 0 _ rfl
      have r1 := hrz 1 _ rfl
      have r2 := hrz 2 _ rfl
      simp only [Nat.zero_add] at m0 m1 m2 m3 n0 n1 n2 n3 n4 n5 n6 n7 n8 n9 n10 r0 r1 r2
      have HBW_w2 := hid hbw
      clear hl2 hrz hbw hgz
      go_wp2_with fail
      go_ret
      exact ⟨rfl, HBW_w2.out⟩
    · have i1 : decide ((60 : Int) < (q.length : Int)) = false := by rw [decide_eq_false_iff_not]; omega
      have i2 : decide (60 < q.length) = false := decide_eq_false hl
      have D1 := hid (C1.out (by omega))
      have D2 := hid (C2.out (by omega))
      obtain ⟨⟨x1, x2, x3, x4⟩, er⟩ := r
      have HEQ := hid (fun W => arr_eq4 x1 x2 x3 x4 W)
      clear hl C1 C2
      obtain ⟨hl2, hrz, hbw, hgz⟩ := KB.out W0 (Below.refl _ _)
      have m0 := hl2.node 0 _ rfl
      have m1 := hl2.node 1 _ rfl
      have m2 := hl2.node 2 _ rfl
      have m3 := hl2.node 3 _ rfl
      have n0 := hl2.box 0 _ rfl
      have n1 := hl2.box 1 _ rfl
      have n2 := hl2.box 2 _ rfl
      have n3 := hl2.box 3 _ rfl
      have n4 := hl2.box 4 _ rfl
      have n5 := hl2.box 5 _ rfl
      have n6 := hl2.box 6 _ rfl
      have n7 := hl2.box 7 _ rfl
      have n8 := hl2.box 8 _ rfl
      have n9 := hl2.box 9 _ rfl
      have n10 := hl2.box 10 _ rfl
      have r0 := hrz 0 _ rfl
      have r1 := hrz 1 _ rfl
      have r2 := hrz 2 _ rfl
      simp only [Nat.zero_add] at m0 m1 m2 m3 n0 n1 n2 n3 n4 n5 n6 n7 n8 n9 n10 r0 r1 r2
      have HBW_W0 := hid hbw
      clear hl2 hrz hbw hgz
      go_enter Tryz.func5, Tryz.ntmps5
      go_wp2_with fail
      clear hW0
      refine (CAW.out _ HBW_W0.out).mono ?_
      rintro e0 w1 ⟨rfl, hb1⟩
      have HT1 := hid hb1
      clear hb1
      clear m0 m1 m2 m3 n0 n1 n2 n3 n4 n5 n6 n7 n8 n9 n10 r0 r1 r2
      obtain ⟨hl2, hrz, hbw, hgz⟩ := KB.out w1 HT1.out
      have m0 := hl2.node 0 _ rfl
      have m1 := hl2.node 1 _ rfl
      have m2 := hl2.node 2 _ rfl
      have m3 := hl2.node 3 _ rfl
      have n0 := hl2.box 0 _ rfl
      have n1 := hl2.box 1 _ rfl
      have n2 := hl2.box 2 _ rfl
      have n3 := hl2.box 3 _ rfl
      have n4 := hl2.box 4 _ rfl
      have n5 := hl2.box 5 _ rfl
      have n6 := hl2.box 6 _ rfl
      have n7 := hl2.box 7 _ rfl
      have n8 := hl2.box 8 _ rfl
      have n9 := hl2.box 9 _ rfl
      have n10 := hl2.box 10 _ rfl
      have r0 := hrz 0 _ rfl
      have r1 := hrz 1 _ rfl
      have r2 := hrz 2 _ rfl
      simp only [Nat.zero_add] at m0 m1 m2 m3 n0 n1 n2 n3 n4 n5 n6 n7 n8 n9 n10 r0 r1 r2
      have HBW_w1 := hid hbw
      clear hl2 hrz hbw hgz
      go_wp2_with fail
      refine (CFW.out _ HBW_w1.out).mono ?_
      rintro e0 w2 ⟨rfl, hb2⟩
      have HT2 := hid (bCl HT1.out hb2)
      clear hb2
      clear m0 m1 m2 m3 n0 n1 n2 n3 n4 n5 n6 n7 n8 n9 n10 r0 r1 r2
      obtain ⟨hl2, hrz, hbw, hgz⟩ := KB.out w2 HT2.out
      have m0 := hl2.node 0 _ rfl
      have m1 := hl2.node 1 _ rfl
      have m2 := hl2.node 2 _ rfl
      have m3 := hl2.node 3 _ rfl
      have n0 := hl2.box 0 _ rfl
      have n1 := hl2.box 1 _ rfl
      have n2 := hl2.box 2 _ rfl
      have n3 := hl2.box 3 _ rfl
      have n4 := hl2.box 4 _ rfl
      have n5 := hl2.box 5 _ rfl
      have n6 := hl2.box 6 _ rfl
      have n7 := hl2.box 7 _ rfl
      have n8 := hl2.box 8 _ rfl
      have n9 := hl2.box 9 _ rfl
      have n10 := hl2.box 10 _ rfl
      have r0 := hrz 0 _ rfl
      have r1 := hrz 1 _ rfl
      have r2 := hrz 2 _ rfl
      simp only [Nat.zero_add] at m0 m1 m2 m3 n0 n1 n2 n3 n4 n5 n6 n7 n8 n9 n10 r0 r1 r2
      have HBW_w2 := hid hbw
      clear hl2 hrz hbw hgz
      go_wp2_with fail
      refine (D1.out _ HBW_w2.out).mono ?_
      rintro e0 w3 ⟨hb3, rfl⟩
      have HT3 := hid (bCl HT2.out hb3)
      clear hb3
      clear m0 m1 m2 m3 n0 n1 n2 n3 n4 n5 n6 n7 n8 n9 n10 r0 r1 r2
      obtain ⟨hl2, hrz, hbw, hgz⟩ := KB.out w3 HT3.out
      have m0 := hl2.node 0 _ rfl
      have m1 := hl2.node 1 _ rfl
      have m2 := hl2.node 2 _ rfl
      have m3 := hl2.node 3 _ rfl
      have n0 := hl2.box 0 _ rfl
      have n1 := hl2.box 1 _ rfl
      have n2 := hl2.box 2 _ rfl
      have n3 := hl2.box 3 _ rfl
      have n4 := hl2.box 4 _ rfl
      have n5 := hl2.box 5 _ rfl
      have n6 := hl2.box 6 _ rfl
      have n7 := hl2.box 7 _ rfl
      have n8 := hl2.box 8 _ rfl
      have n9 := hl2.box 9 _ rfl
      have n10 := hl2.box 10 _ rfl
      have r0 := hrz 0 _ rfl
      have r1 := hrz 1 _ rfl
      have r2 := hrz 2 _ rfl
      simp only [Nat.zero_add] at m0 m1 m2 m3 n0 n1 n2 n3 n4 n5 n6 n7 n8 n9 n10 r0 r1 r2
      have HBW_w3 := hid hbw
      clear hl2 hrz hbw hgz
      go_wp2_with fail
      refine (D2.out _ HBW_w3.out).mono ?_
      rintro e0 w4 ⟨hb4, rfl⟩
      have HT4 := hid (bCl HT3.out hb4)
      clear hb4
      clear m0 m1 m2 m3 n0 n1 n2 n3 n4 n5 n6 n7 n8 n9 n10 r0 r1 r2
      go_upto_region 7 with fail
      obtain ⟨X4, hX4⟩ : ∃ W, w4.alloc (.cells #[.int .i64 x1, .int .i64 x2, .int .i64 x3, .int .i64 x4] 52) = W := ⟨_, rfl⟩
      have hx4 : BoxL X4 w4.heap.size 0 [.int .i64 x1, .int .i64 x2, .int .i64 x3, .int .i64 x4] := by rw [← hX4]; exact BoxL.new _ _ _ _ rfl _ rfl
      have HTX : Hid (Below W0.heap.size W0 X4) := by show Below _ _ _; rw [← hX4]; exact bAl HT4.out _
      have y0 := hx4 0 _ rfl
      have y1 := hx4 1 _ rfl
      have y2 := hx4 2 _ rfl
      have y3 := hx4 3 _ rfl
      simp only [Nat.zero_add] at y0 y1 y2 y3
      have he4 := HEQ.out
      try rw [hX4]
      clear hX4 hx4
      go_wp2_with fail
      go_ret
      exact ⟨rfl, (KB.out _ HTX.out).2.2.1⟩
end Go.Proofs.YtmahiejfniaahaaGreatDoor
