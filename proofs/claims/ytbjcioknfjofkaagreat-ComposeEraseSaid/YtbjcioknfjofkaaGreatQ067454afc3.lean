/- Texts put together. -/
import Derived.Test.YtbjcioknfjofkaaGreatQ9bddb35c8b
import Derived.Test.YtbjcioknfjofkaaGreatQ439271f138
import Derived.Test.YtbjcioknfjofkaaGreatQ90da96f55c
import Derived.Test.YtbjcioknfjofkaaGreatQ31a24e25c3
set_option linter.unusedVariables false
set_option linter.unusedSimpArgs false
set_option maxRecDepth 100000
namespace Go.Proofs.YtbjcioknfjofkaaGreat
open Go.RowKit
theorem zLu {op:OpD} (h:zBp op = true):zAd op.nodes≤1000:=by
 have hr:∀ l:List Tree,zAf (rowT l) = true→zAd l≤1000:=fun l hv=>by
  have h1:=(zA0 hv).1
  have h2:zAe (rowT l) = 1 + zAd l:=rfl
  omega
 unfold zBp at h
 split at h
 ·simp only [Bool.and_eq_true] at h;exact hr _ h.2.1
 ·split at h
  ·simp only [Bool.and_eq_true] at h
   have h1:=h.2.1
   unfold zA9 at h1
   simp only [Bool.and_eq_true] at h1
   exact hr _ h1.2.1
  ·split at h
   ·simp only [Bool.and_eq_true,decide_eq_true_eq] at h
    rw [List.eq_nil_of_length_eq_zero h.2.1]
    exact Nat.zero_le _
   ·cases h
theorem row_is {t:Tree} {p:List Int} (hv:zAf t = true) (h:(zAg t p).2 = 0):(zAg t p).1 = rowT (zAg t p).1.kids∧(zAm t p).2 = true∧zB0 (rowT (zAg t p).1.kids) = true:=by
 obtain ⟨h1,h2⟩:=zGx hv h
 have hv2:=zA0 hv
 have h3:=zGd hv h1
 obtain ⟨h4,_⟩:=zEp p t h1 hv2.2.2.1 hv2.2.1
 rw [h2]
 rw [h3] at h4
 exact ⟨h3,h1,h4⟩
theorem zOn {t:Tree} {p:List Int} (h:(zAg t p).2≠0):(zAg t p).1 = zAx:=by
 unfold zAg at h ⊢
 by_cases h1:zAf t = false
 ·rw [if_pos h1]
 ·rw [if_neg h1] at h ⊢
  by_cases h2:(zAm t p).2 = false
  ·rw [if_pos h2]
  ·rw [if_neg h2] at h;exact absurd rfl h
theorem with_res {t:Tree} {p:List Int} {l:List Tree} (hv:zAf t = true) (hf:(zAm t p).2 = true):(zAf (putS t p l) = true∧zFp t p l = (putS t p l,0))∨(zAf (putS t p l) = false∧(zFp t p l).1 = zAx∧(zFp t p l).2≠0):=by
 unfold zFp
 rw [if_neg (by simp [hv]),if_neg (by simp [hf])]
 cases h1:zAf (putS t p l)
 ·right
  refine ⟨rfl,?_⟩
  cases zAf (rowT l) <;> simp
 ·left
  rw [zPw hf h1]
  simp
set_option maxHeartbeats 4000000 in
theorem zOy (t : Tree) (op : OpD) (A Ar An : Option Addr) (cap cr cn : Nat) (w : World) (hv : zAa zAb w (Lt w.heap.size) t.kids (.slice A t.kids.length cap)) (hok : zAu t) (hct : zAe t ≤ 900000) (htx : op.text.size ≤ maxLen) (hr : zAh w (Lt w.heap.size) op.row (.slice Ar op.row.length cr)) (hn : zAa zAb w (Lt w.heap.size) op.nodes (.slice An op.nodes.length cn)) :
    Calls Tryz.prog 52 #[.agg #[.int .i64 t.kind, .string t.text, .int .i64 t.cols, .slice A t.kids.length cap], .agg (opC op (.slice Ar op.row.length cr) (.slice An op.nodes.length cn))] w (RowQ w (zA8 t op).1 (zA8 t op).2) := by
  have C1 : Hid (∀ W, Below w.heap.size w W → Calls Tryz.prog 49 #[.agg #[.int .i64 t.kind, .string t.text, .int .i64 t.cols, .slice A t.kids.length cap]] W fun e w' => e = .returned (.bool (zAf t)) ∧ Below W.heap.size W w') := fun W hW => zCc t A cap W (hv.below hW hW.size) hok.2.2
  have C2 : Hid (∀ W, Below w.heap.size w W → Calls Tryz.prog 54 #[.agg (opC op (.slice Ar op.row.length cr) (.slice An op.nodes.length cn))] W (EqC W (zBp op))) := fun W hW => zM9 op op.row.length Ar An cr cn W (hn.below hW hW.size)
  have C3 : Hid (∀ W, Below w.heap.size w W → Calls Tryz.prog 69 #[.agg #[.int .i64 t.kind, .string t.text, .int .i64 t.cols, .slice A t.kids.length cap], .slice Ar op.row.length cr] W (RowQ W (zAg t op.row).1 (zAg t op.row).2)) := fun W hW => zKi t op.row A Ar cap cr W (hv.below hW hW.size) hok hct (hr.below hW hW.size)
  have HX0 : Hid (zAf t = false → zA8 t op = (zAx, 1)) := fun h => by unfold zA8; rw [if_pos h]
  have HX1 : Hid (zAf t = true → zBp op = false → zA8 t op = (zAx, 4)) := fun h h1 => by unfold zA8; rw [if_neg (by simp [h]), if_pos h1]
  have HX2 : Hid (zAf t = true → zBp op = true → (zAg t op.row).2 ≠ 0 → zA8 t op = (zAx, (zAg t op.row).2) ∧ (zAg t op.row).1 = zAx) := fun h h1 h2 => ⟨by unfold zA8; rw [if_neg (by simp [h]), if_neg (by simp [h1]), if_pos h2], zOn h2⟩
  have HX3 : Hid (zAf t = true → zBp op = true → (zAg t op.row).2 = 0 → (zAg t op.row).1 = rowT (zAg t op.row).1.kids ∧ (∀ W Ax cx, Below w.heap.size w W → (∀ S : Nat → Prop, (∀ q, S q → q < W.heap.size) → (∀ q, q < w.heap.size → S q) → zAa zAb W S (zAg t op.row).1.kids (.slice Ax (zAg t op.row).1.kids.length cx) →
      Calls Tryz.prog 86 #[.agg (chC op (.slice Ar op.row.length cr) (.slice An op.nodes.length cn) (.slice Ax (zAg t op.row).1.kids.length cx))] W (zCa S W (zAi (zAg t op.row).1.kids op)))) ∧
      ((zAi (zAg t op.row).1.kids op).2 ≠ 0 → zA8 t op = (zAx, (zAi (zAg t op.row).1.kids op).2)) ∧
      ((zAi (zAg t op.row).1.kids op).2 = 0 → (∀ W Al cl, Below w.heap.size w W → zAa zAb W (Lt W.heap.size) (zAi (zAg t op.row).1.kids op).1 (.slice Al (zAi (zAg t op.row).1.kids op).1.length cl) →
        Calls Tryz.prog 87 #[.agg #[.int .i64 t.kind, .string t.text, .int .i64 t.cols, .slice A t.kids.length cap], .slice Ar op.row.length cr, .agg #[.int .i64 1, .string ⟨#[]⟩, .int .i64 0, .slice Al (zAi (zAg t op.row).1.kids op).1.length cl]] W (RowQ W (zFp t op.row (zAi (zAg t op.row).1.kids op).1).1 (zFp t op.row (zAi (zAg t op.row).1.kids op).1).2)) ∧
        ((zA8 t op = zFp t op.row (zAi (zAg t op.row).1.kids op).1 ∧ (zFp t op.row (zAi (zAg t op.row).1.kids op).1).2 = 0) ∨ (zA8 t op = (zAx, 6) ∧ (zFp t op.row (zAi (zAg t op.row).1.kids op).1).2 ≠ 0 ∧ (zFp t op.row (zAi (zAg t op.row).1.kids op).1).1 = zAx)))) := fun h h1 h2 => by
    obtain ⟨e1, e2, e3⟩ := row_is h h2
    have hvc := (zA0 h).1
    have hrc := zE5 t op.row hvc
    have hnc := zLu h1
    refine ⟨e1, fun W Ax cx hW S hS hS2 hx => zM8 op _ _ Ar An Ax cr cn cx W S hS hx (hn.keep (fun q hq => hW.cell hq) hS2) h1 e3 (by omega) (by omega) htx, fun h3 => by unfold zA8; rw [if_neg (by simp [h]), if_neg (by simp [h1]), if_neg (by simp [h2]), if_pos h3], fun h3 => ⟨fun W Al cl hW hx => with_any t op.row _ A Ar Al cap cr cl W (hv.below hW hW.size) hok hct (hr.below hW hW.size) hx, ?_⟩⟩
    rcases with_res (l := (zAi (zAg t op.row).1.kids op).1) h e2 with ⟨q1, q2⟩ | ⟨q1, q2, q3⟩
    · left
      refine ⟨?_, by rw [q2]⟩
      unfold zA8
      rw [if_neg (by simp [h]), if_neg (by simp [h1]), if_neg (by simp [h2]), if_neg (by simp [h3]), if_neg (by rw [q1]; simp), q2]
    · right
      refine ⟨?_, q3, q2⟩
      unfold zA8
      rw [if_neg (by simp [h]), if_neg (by simp [h1]), if_neg (by simp [h2]), if_neg (by simp [h3]), if_pos q1]
  generalize zA8 t op = RES at *
  generalize hbv : zAf t = bv at *
  generalize hbf : zBp op = bf at *
  generalize zAg t op.row = RR at *
  obtain ⟨⟨rk, rt, rc, rks⟩, re⟩ := RR
  simp only [Tree.kind, Tree.text, Tree.cols, Tree.kids] at HX2 HX3 C3
  generalize zAi rks op = CH at *
  obtain ⟨cx, ce⟩ := CH
  simp only at HX3
  generalize zFp t op.row cx = WR at *
  obtain ⟨⟨wk, wt, wc, wks⟩, we⟩ := WR
  simp only [Tree.kind, Tree.text, Tree.cols, Tree.kids] at HX3
  clear hv hok hct htx hr hn hbv hbf
  obtain ⟨kind, row, at_, n, nodes, slot, old, text⟩ := op
  simp only [opC, chC] at *
  obtain ⟨W0, hW0⟩ : ∃ W0, ((w.alloc (Obj.cells #[.int .i64 t.kind, .string t.text, .int .i64 t.cols, .slice A t.kids.length cap] 24)).alloc (Obj.cells #[.int .i64 kind, .slice Ar row.length cr, .int .i64 at_, .int .i64 n, .slice An nodes.length cn, .int .i64 slot, .string old, .string text] 67)).alloc (.cells #[.int .i64 0, .string ⟨#[]⟩, .int .i64 0, .slice none 0 0] 24) = W0 := ⟨_, rfl⟩
  have HW0Z : Hid (W0.heap.size = w.heap.size + 1 + 1 + 1) := by show _ = _; rw [← hW0]; simp
  have KB : Hid (∀ W, Below W0.heap.size W0 W → FB W w.heap.size (.int .i64 t.kind) (.string t.text) (.int .i64 t.cols) (.slice A t.kids.length cap) ∧ zDa W (w.heap.size + 1) ⟨kind, row, at_, n, nodes, slot, old, text⟩ (.slice Ar row.length cr) (.slice An nodes.length cn) ∧ FB W (w.heap.size + 1 + 1) (.int .i64 0) (.string ⟨#[]⟩) (.int .i64 0) (.slice none 0 0) ∧ Below w.heap.size w W ∧ w.heap.size + 3 ≤ W.heap.size) := by
    intro W hW
    have hz : W0.heap.size = w.heap.size + 1 + 1 + 1 := HW0Z.out
    refine ⟨FB.below (B := W0.heap.size) ?_ hW (by omega), zDa.below (B := W0.heap.size) ?_ hW (by omega), FB.below (B := W0.heap.size) ?_ hW (by omega), Below.trans ?_ (hW.mono (by omega)), by have := hW.size; omega⟩
    · rw [← hW0]; exact ((FB.new w _ _ _ _ _ rfl).below (blA _ _) (by simp)).below (blA _ _) (by simp; omega)
    · rw [← hW0]
      have h9 := zDa.new (w.alloc (Obj.cells #[.int .i64 t.kind, .string t.text, .int .i64 t.cols, .slice A t.kids.length cap] 24)) ⟨kind, row, at_, n, nodes, slot, old, text⟩ (.slice Ar row.length cr) (.slice An nodes.length cn) 67
      rw [show (w.alloc (Obj.cells #[.int .i64 t.kind, .string t.text, .int .i64 t.cols, .slice A t.kids.length cap] 24)).heap.size = w.heap.size + 1 by simp] at h9
      exact h9.below (blA _ _) (by simp)
    · rw [← hW0]; exact FB.new _ _ _ _ _ _ (by simp)
    · rw [← hW0]; exact zAp (zAp (blA _ _) _) _
  obtain ⟨⟨⟨m0, m1, m2, m3⟩, _⟩, ⟨o0, o1, o2, o3, o4, o5, o6, o7⟩, ⟨⟨c0, c1, c2, c3⟩, ⟨f0, f1, f2, f3⟩⟩, hbw0, hz0⟩ := KB.out W0 (Below.refl _ _)
  have HBW0 := hid hbw0
  clear hbw0
  go_enter Tryz.func52, Tryz.ntmps52
  go_wp2_with fail
  refine (C1.out _ HBW0.out).mono ?_
  rintro e w1 ⟨rfl, hb1⟩
  clear m0 m1 m2 m3 o0 o1 o2 o3 o4 o5 o6 o7 c0 c1 c2 c3 f0 f1 f2 f3
  clear hz0
  have HB1 := hid hb1
  obtain ⟨⟨⟨m0, m1, m2, m3⟩, _⟩, ⟨o0, o1, o2, o3, o4, o5, o6, o7⟩, ⟨⟨c0, c1, c2, c3⟩, ⟨f0, f1, f2, f3⟩⟩, hbw1, hz1⟩ := KB.out w1 hb1
  have HBW1 := hid hbw1
  clear hb1 hbw1
  cases bv
  · have HC := hid (And.intro c0 (And.intro c1 (And.intro c2 c3)))
    go_wp2_with fail
    generalize hW : (((w1.setCell _ (.int .i64 0)).setCell _ (.string ⟨#[]⟩)).setCell _ (.int .i64 0)).setCell _ (.slice none 0 0) = W
    obtain ⟨⟨r0, r1, r2, r3⟩, rz, rb, ro, _⟩ := four HC.out.1 HC.out.2.1 HC.out.2.2.1 HC.out.2.2.2 _ _ _ _ hW.symm
    have HB' := hid (rb w.heap.size w (by omega) HBW1.out)
    clear hW ro rb
    refine bodyPost_ret (v := .tuple #[.agg #[.int .i64 0, .string ⟨#[]⟩, .int .i64 0, .slice none 0 0], .int .i64 1]) (by simp [results, Tryz.results52, go_sem, r0, r1, r2, r3]) rfl ?_
    rw [HX0.out (by trivial)]
    exact ⟨_, rfl, zAa.nil_ 0 (Nat.zero_le _) none, HB'.out⟩
  go_wp2_with fail
  refine (C2.out _ HBW1.out).mono ?_
  rintro e w2 ⟨rfl, hb2⟩
  have HB2 := hid (HB1.out.trans (hb2.mono HB1.out.size))
  clear m0 m1 m2 m3 o0 o1 o2 o3 o4 o5 o6 o7 c0 c1 c2 c3 f0 f1 f2 f3
  obtain ⟨⟨⟨m0, m1, m2, m3⟩, _⟩, ⟨o0, o1, o2, o3, o4, o5, o6, o7⟩, ⟨⟨c0, c1, c2, c3⟩, ⟨f0, f1, f2, f3⟩⟩, hbw2, hz2⟩ := KB.out w2 HB2.out
  have HBW2 := hid hbw2
  clear hb2 hbw2
  cases bf
  · have HC := hid (And.intro c0 (And.intro c1 (And.intro c2 c3)))
    go_wp2_with fail
    generalize hW : (((w2.setCell _ (.int .i64 0)).setCell _ (.string ⟨#[]⟩)).setCell _ (.int .i64 0)).setCell _ (.slice none 0 0) = W
    obtain ⟨⟨r0, r1, r2, r3⟩, rz, rb, ro, _⟩ := four HC.out.1 HC.out.2.1 HC.out.2.2.1 HC.out.2.2.2 _ _ _ _ hW.symm
    have HB' := hid (rb w.heap.size w (by omega) HBW2.out)
    clear hW ro rb
    refine bodyPost_ret (v := .tuple #[.agg #[.int .i64 0, .string ⟨#[]⟩, .int .i64 0, .slice none 0 0], .int .i64 4]) (by simp [results, Tryz.results52, go_sem, r0, r1, r2, r3]) rfl ?_
    rw [HX1.out (by trivial) (by trivial)]
    exact ⟨_, rfl, zAa.nil_ 0 (Nat.zero_le _) none, HB'.out⟩
  go_wp2_with fail
  refine (C3.out _ HBW2.out).mono ?_
  rintro e w3 ⟨v3, rfl, hr3, hb3⟩
  simp only [Tree.kind, Tree.text, Tree.cols, Tree.kids] at hr3 ⊢
  obtain ⟨A3, c3', rfl⟩ := hr3.form
  have HB3 := hid (HB2.out.trans (hb3.mono HB2.out.size))
  have HR3 : Hid (zAa zAb w3 (Lt w3.heap.size) rks (.slice A3 rks.length c3')) := hr3.keep (fun _ _ => rfl) (fun k hk => hk.2)
  obtain ⟨W4, hW4⟩ : ∃ W4, w3.alloc (.cells #[.int .i64 rk, .string rt, .int .i64 rc, .slice A3 rks.length c3'] 24) = W4 := ⟨_, rfl⟩
  have hb4 : Below w3.heap.size w3 W4 := by rw [← hW4]; exact blA _ _
  have HB4 : Hid (Below W0.heap.size W0 W4) := HB3.out.trans (hb4.mono HB3.out.size)
  obtain ⟨⟨t0, t1, t2, t3⟩, ⟨g0, g1, g2, g3⟩⟩ : FB W4 w3.heap.size (.int .i64 rk) (.string rt) (.int .i64 rc) (.slice A3 rks.length c3') := by rw [← hW4]; exact FB.new _ _ _ _ _ _ rfl
  have HR4 : Hid (zAa zAb W4 (fun q => q < w3.heap.size) rks (.slice A3 rks.length c3')) := HR3.out.keep (fun q hq => hb4.cell hq) (fun q hq => hq)
  have H30 : Hid (w.heap.size ≤ w3.heap.size) := Nat.le_trans HBW2.out.size hb3.size
  have H3 : Hid (W0.heap.size ≤ w3.heap.size) := HB3.out.size
  have H34 : Hid (w3.heap.size < W4.heap.size) := zBd t0
  clear m0 m1 m2 m3 o0 o1 o2 o3 o4 o5 o6 o7 c0 c1 c2 c3 f0 f1 f2 f3
  obtain ⟨⟨⟨m0, m1, m2, m3⟩, _⟩, ⟨o0, o1, o2, o3, o4, o5, o6, o7⟩, ⟨⟨c0, c1, c2, c3⟩, ⟨f0, f1, f2, f3⟩⟩, hbw4, hz4⟩ := KB.out W4 HB4.out
  have HBW4 := hid hbw4
  clear hr3 hb3 hbw4 hb4
  go_upto_region 6 with fail
  try rw [hW4]
  clear hW4
  by_cases her : re = 0
  rotate_left
  · obtain ⟨hx1, hx2⟩ := HX2.out (by trivial) (by trivial) her
    have i9 : (re == 0) = false := by simpa using her
    have i9' : (re != 0) = true := by simpa using her
    have HRES := hid hx1
    clear hx1 HX3 hx2 t0 t1 t2 t3 g0 g1 g2 g3
    have HC := hid (And.intro c0 (And.intro c1 (And.intro c2 c3)))
    go_wp2_with fail
    generalize hW : (((W4.setCell _ (.int .i64 0)).setCell _ (.string ⟨#[]⟩)).setCell _ (.int .i64 0)).setCell _ (.slice none 0 0) = W
    obtain ⟨⟨r0, r1, r2, r3⟩, rz, rb, ro, _⟩ := four HC.out.1 HC.out.2.1 HC.out.2.2.1 HC.out.2.2.2 _ _ _ _ hW.symm
    have HB' := hid (rb w.heap.size w (by omega) HBW4.out)
    clear hW ro rb
    refine bodyPost_ret (v := .tuple #[.agg #[.int .i64 0, .string ⟨#[]⟩, .int .i64 0, .slice none 0 0], .int .i64 re]) (by simp [results, Tryz.results52, go_sem, r0, r1, r2, r3]) rfl ?_
    rw [HRES.out]
    exact ⟨_, rfl, zAa.nil_ 0 (Nat.zero_le _) none, HB'.out⟩
  subst her
  obtain ⟨e1, hAp, hE, hO⟩ := HX3.out (by trivial) (by trivial) rfl
  have HAP := hid hAp
  have HE := hid hE
  have HO := hid hO
  unfold rowT at e1
  injection e1 with x1 x2 x3 x4
  subst x1 x2 x3
  clear HX2 HX3 hAp hE hO x4
  go_wp2_with fail
  refine (HAP.out W4 A3 c3' HBW4.out (fun q => q < w3.heap.size) (fun q hq => Nat.lt_trans hq H34.out) (fun q hq => Nat.lt_of_lt_of_le hq H30.out) HR4.out).mono ?_
  rintro e w5 ⟨v5, rfl, hr5, hb5⟩
  simp only at hr5 ⊢
  obtain ⟨A5, c5, rfl⟩ := hr5.form
  obtain ⟨⟨t0, t1, t2, t3⟩, ⟨g0, g1, g2, g3⟩⟩ := FB.below (W' := w5) (B := W4.heap.size) (b := w3.heap.size) ⟨⟨t0, t1, t2, t3⟩, g0, g1, g2, g3⟩ hb5 H34.out
  have hk5 : ∀ k, Lt w5.heap.size k → True := fun _ _ => trivial
  have HB5 := hid (HB4.out.trans (hb5.mono HB4.out.size))
  have HB6 : Hid (Below W0.heap.size W0 (w5.setCell ⟨w3.heap.size, 3, none⟩ (.slice A5 cx.length c5))) := HB5.out.setCell (p := ⟨w3.heap.size, 3, none⟩) H3.out _
  have u0 : (w5.setCell ⟨w3.heap.size, 3, none⟩ (.slice A5 cx.length c5)).cell? ⟨w3.heap.size, 0, none⟩ = some (.int .i64 1) := (World.cell?_setCell_other _ _ _ _ (by intro e; injection e with e e'; cases e')).trans t0
  have u1 : (w5.setCell ⟨w3.heap.size, 3, none⟩ (.slice A5 cx.length c5)).cell? ⟨w3.heap.size, 1, none⟩ = some (.string ⟨#[]⟩) := (World.cell?_setCell_other _ _ _ _ (by intro e; injection e with e e'; cases e')).trans t1
  have u2 : (w5.setCell ⟨w3.heap.size, 3, none⟩ (.slice A5 cx.length c5)).cell? ⟨w3.heap.size, 2, none⟩ = some (.int .i64 0) := (World.cell?_setCell_other _ _ _ _ (by intro e; injection e with e e'; cases e')).trans t2
  have u3 : (w5.setCell ⟨w3.heap.size, 3, none⟩ (.slice A5 cx.length c5)).cell? ⟨w3.heap.size, 3, none⟩ = some (.slice A5 cx.length c5) := World.cell?_setCell_same _ _ _ t3
  clear m0 m1 m2 m3 o0 o1 o2 o3 o4 o5 o6 o7 c0 c1 c2 c3 f0 f1 f2 f3
  obtain ⟨⟨⟨m0, m1, m2, m3⟩, _⟩, ⟨o0, o1, o2, o3, o4, o5, o6, o7⟩, ⟨⟨c0, c1, c2, c3⟩, ⟨f0, f1, f2, f3⟩⟩, hbw5, hz5⟩ := KB.out w5 HB5.out
  clear hbw5
  go_upto_region 9 with fail
  have hr6 : zAa zAb (w5.setCell ⟨w3.heap.size, 3, none⟩ (.slice A5 cx.length c5)) (Lt (w5.setCell ⟨w3.heap.size, 3, none⟩ (.slice A5 cx.length c5)).heap.size) cx (.slice A5 cx.length c5) := hr5.keep (fun q hq => World.cell?_setCell_other _ _ _ _ (by
    intro e
    rw [← e] at hq
    have := H34.out
    rcases hq with hq | hq
    · exact Nat.lt_irrefl _ hq
    · have := hq.1; simp only at this; omega)) (fun k hk => by
    have h9 := H34.out
    have h8 := hb5.size
    unfold Lt
    simp only [World.setCell]
    rcases hk with hk | hk
    · simp; omega
    · simpa using hk.2)
  generalize (w5.setCell ⟨w3.heap.size, 3, none⟩ (.slice A5 cx.length c5)) = W6 at *
  have HR6 := hid hr6
  try clear m0 m1 m2 m3 o0 o1 o2 o3 o4 o5 o6 o7 c0 c1 c2 c3 f0 f1 f2 f3
  obtain ⟨⟨⟨m0, m1, m2, m3⟩, _⟩, ⟨o0, o1, o2, o3, o4, o5, o6, o7⟩, ⟨⟨c0, c1, c2, c3⟩, ⟨f0, f1, f2, f3⟩⟩, hbw6, hz6⟩ := KB.out W6 HB6.out
  have HBW6 := hid hbw6
  clear t0 t1 t2 t3 g0 g1 g2 g3 hr5 hb5 hr6 hbw6 hk5
  by_cases hce : ce = 0
  rotate_left
  · have i9 : (ce == 0) = false := by simpa using hce
    have i9' : (ce != 0) = true := by simpa using hce
    have HRES := hid (HE.out hce)
    clear u0 u1 u2 u3
    have HC := hid (And.intro c0 (And.intro c1 (And.intro c2 c3)))
    go_wp2_with fail
    generalize hW : (((W6.setCell _ (.int .i64 0)).setCell _ (.string ⟨#[]⟩)).setCell _ (.int .i64 0)).setCell _ (.slice none 0 0) = W
    obtain ⟨⟨r0, r1, r2, r3⟩, rz, rb, ro, _⟩ := four HC.out.1 HC.out.2.1 HC.out.2.2.1 HC.out.2.2.2 _ _ _ _ hW.symm
    have HB' := hid (rb w.heap.size w (by omega) HBW6.out)
    clear hW ro rb
    refine bodyPost_ret (v := .tuple #[.agg #[.int .i64 0, .string ⟨#[]⟩, .int .i64 0, .slice none 0 0], .int .i64 ce]) (by simp [results, Tryz.results52, go_sem, r0, r1, r2, r3]) rfl ?_
    rw [HRES.out]
    exact ⟨_, rfl, zAa.nil_ 0 (Nat.zero_le _) none, HB'.out⟩
  subst hce
  obtain ⟨hwi, hor⟩ := HO.out rfl
  have HWI := hid (hwi W6 A5 c5 HBW6.out HR6.out)
  have HOR := hid hor
  clear hwi hor HE HO
  go_wp2_with fail
  refine HWI.out.mono ?_
  rintro e w7 ⟨v7, rfl, hr7, hb7⟩
  simp only [Tree.kind, Tree.text, Tree.cols, Tree.kids] at hr7 ⊢
  obtain ⟨A7, c7, rfl⟩ := hr7.form
  have HB7 := hid (HB6.out.trans (hb7.mono HB6.out.size))
  obtain ⟨W8, hW8⟩ : ∃ W8, w7.alloc (.cells #[.int .i64 wk, .string wt, .int .i64 wc, .slice A7 wks.length c7] 24) = W8 := ⟨_, rfl⟩
  have hb8 : Below w7.heap.size w7 W8 := by rw [← hW8]; exact blA _ _
  have HB8 : Hid (Below W0.heap.size W0 W8) := HB7.out.trans (hb8.mono HB7.out.size)
  obtain ⟨⟨t0, t1, t2, t3⟩, ⟨g0, g1, g2, g3⟩⟩ : FB W8 w7.heap.size (.int .i64 wk) (.string wt) (.int .i64 wc) (.slice A7 wks.length c7) := by rw [← hW8]; exact FB.new _ _ _ _ _ _ rfl
  have HR8 : Hid (zAa zAb W8 (fun k => W0.heap.size ≤ k ∧ k < W8.heap.size) wks (.slice A7 wks.length c7)) := hr7.keep (fun q hq => hb8.cell hq.2) (fun k hk => ⟨Nat.le_trans HB6.out.size hk.1, Nat.lt_of_lt_of_le hk.2 hb8.size⟩)
  clear m0 m1 m2 m3 o0 o1 o2 o3 o4 o5 o6 o7 c0 c1 c2 c3 f0 f1 f2 f3
  obtain ⟨⟨⟨m0, m1, m2, m3⟩, _⟩, ⟨o0, o1, o2, o3, o4, o5, o6, o7⟩, ⟨⟨c0, c1, c2, c3⟩, ⟨f0, f1, f2, f3⟩⟩, hbw8, hz8⟩ := KB.out W8 HB8.out
  have HBW8 := hid hbw8
  clear hr7 hb7 hbw8 hb8 u0 u1 u2 u3
  go_upto_region 12 with fail
  try rw [hW8]
  clear hW8
  by_cases hwe : we = 0
  rotate_left
  · have i9 : (we == 0) = false := by simpa using hwe
    have i9' : (we != 0) = true := by simpa using hwe
    have HRES : Hid (RES = (zAx, 6)) := by
      rcases HOR.out with h | h
      · exact absurd h.2 hwe
      · exact h.1
    clear t0 t1 t2 t3 g0 g1 g2 g3
    have HC := hid (And.intro c0 (And.intro c1 (And.intro c2 c3)))
    go_wp2_with fail
    generalize hW : (((W8.setCell _ (.int .i64 0)).setCell _ (.string ⟨#[]⟩)).setCell _ (.int .i64 0)).setCell _ (.slice none 0 0) = W
    obtain ⟨⟨r0, r1, r2, r3⟩, rz, rb, ro, _⟩ := four HC.out.1 HC.out.2.1 HC.out.2.2.1 HC.out.2.2.2 _ _ _ _ hW.symm
    have HB' := hid (rb w.heap.size w (by omega) HBW8.out)
    clear hW ro rb
    refine bodyPost_ret (v := .tuple #[.agg #[.int .i64 0, .string ⟨#[]⟩, .int .i64 0, .slice none 0 0], .int .i64 6]) (by simp [results, Tryz.results52, go_sem, r0, r1, r2, r3]) rfl ?_
    rw [HRES.out]
    exact ⟨_, rfl, zAa.nil_ 0 (Nat.zero_le _) none, HB'.out⟩
  have HRES : Hid (RES = (.mk wk wt wc wks, we)) := by
    rcases HOR.out with h | h
    · exact h.1
    · exact absurd hwe h.2.1
  subst hwe
  have HC := hid (And.intro c0 (And.intro c1 (And.intro c2 c3)))
  clear HOR
  go_wp2_with fail
  generalize hW : (((W8.setCell _ (.int .i64 wk)).setCell _ (.string wt)).setCell _ (.int .i64 wc)).setCell _ (.slice A7 wks.length c7) = W
  obtain ⟨⟨r0, r1, r2, r3⟩, rz, rb, ro, _⟩ := four HC.out.1 HC.out.2.1 HC.out.2.2.1 HC.out.2.2.2 _ _ _ _ hW.symm
  have HB' := hid (rb w.heap.size w (by omega) HBW8.out)
  have HFIN : Hid (zAa zAb W (fun k => w.heap.size ≤ k ∧ k < W.heap.size) wks (.slice A7 wks.length c7)) := HR8.out.keep (fun q hq => ro q (by have := hq.1; have := HW0Z.out; omega)) (fun k hk => ⟨by have := hk.1; have := HW0Z.out; omega, by rw [rz]; exact hk.2⟩)
  clear hW ro rb
  refine bodyPost_ret (v := .tuple #[.agg #[.int .i64 wk, .string wt, .int .i64 wc, .slice A7 wks.length c7], .int .i64 0]) (by simp [results, Tryz.results52, go_sem, r0, r1, r2, r3]) rfl ?_
  rw [HRES.out]
  exact ⟨_, rfl, HFIN.out, HB'.out⟩
end Go.Proofs.YtbjcioknfjofkaaGreat
