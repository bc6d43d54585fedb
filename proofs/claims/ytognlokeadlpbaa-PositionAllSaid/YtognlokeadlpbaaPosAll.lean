/- vinculumlaw10.PositionAll: the walk. -/
import Derived.Test.YtognlokeadlpbaaAwk10
import Derived.Test.YtognlokeadlpbaaPos7
import Derived.Test.YtognlokeadlpbaaPos8
import Derived.Test.YtognlokeadlpbaaPosL3
set_option linter.unusedVariables false
set_option linter.unusedSimpArgs false
set_option maxRecDepth 100000
namespace Go.Proofs.Ytognlokeadlpbaa
open Go.RowKit

set_option maxHeartbeats 4000000 in
theorem posAll_walk (t : Tree) (A : Option Addr) (cap : Nat) (w : World) (hv : SliceR treeE w (Lt w.heap.size) t.kids (.slice A t.kids.length cap)) (htx : t.text.size ≤ maxLen) :
    Calls Try.prog 9 #[.agg #[.int .i64 t.kind, .string t.text, .int .i64 t.cols, .slice A t.kids.length cap]] w fun e w' => e = .returned (.bool true) ∧ Below w.heap.size w w' := by
  have KB : Hid (∀ W, Below (w.alloc (.cells #[.int .i64 t.kind, .string t.text, .int .i64 t.cols, .slice A t.kids.length cap] 24)).heap.size (w.alloc (.cells #[.int .i64 t.kind, .string t.text, .int .i64 t.cols, .slice A t.kids.length cap] 24)) W →
      (W.cell? ⟨w.heap.size, 0, none⟩ = some (.int .i64 t.kind) ∧ W.cell? ⟨w.heap.size, 1, none⟩ = some (.string t.text) ∧ W.cell? ⟨w.heap.size, 2, none⟩ = some (.int .i64 t.cols) ∧ W.cell? ⟨w.heap.size, 3, none⟩ = some (.slice A t.kids.length cap)) ∧ Below w.heap.size w W ∧ w.heap.size < W.heap.size) := by
    intro W hW
    have hc := (bcell hW).1
    exact ⟨⟨(hc _ _ (by simp)).trans (na_c _ _ _ _ _ rfl), (hc _ _ (by simp)).trans (na_c _ _ _ _ _ rfl), (hc _ _ (by simp)).trans (na_c _ _ _ _ _ rfl), (hc _ _ (by simp)).trans (na_c _ _ _ _ _ rfl)⟩, (below_allocR' _ _).trans (hW.mono (by simp)), by have := hW.size; simp at this; omega⟩
  have CF : Hid (∀ W, Below w.heap.size w W → Calls Try.prog 34 #[.agg #[.int .i64 t.kind, .string t.text, .int .i64 t.cols, .slice A t.kids.length cap], .slice none 0 0] W fun e w' => e = .returned (.bool (few10S t [])) ∧ Below W.heap.size W w') := fun W hW => few10_any t [] A none cap 0 W (hv.below hW hW.size) (by simp)
  cases hfew : few10S t []
  · rw [hfew] at CF
    obtain ⟨tk, tx, tc, ts⟩ := t
    simp only [Tree.kind, Tree.text, Tree.cols, Tree.kids] at *
    clear hv htx hfew
    go_enter Try.func9, Try.ntmps9
    go_wp2_with fail
    refine (awake10_any _).mono ?_
    rintro e w1 ⟨rfl, hb1⟩
    obtain ⟨⟨m0, m1, m2, m3⟩, hbw, hz1⟩ := KB.out w1 hb1
    have HBW := hid hbw
    clear hb1 hbw
    go_wp2_with fail
    refine (CF.out _ HBW.out).mono ?_
    rintro e w3 ⟨rfl, hb3⟩
    have HB3 : Hid (Below w1.heap.size w1 w3) := hid hb3
    clear hb3
    go_wp2_with fail
    refine (awake10_any _).mono ?_
    rintro e w4 ⟨rfl, hb4⟩
    have HB4 := hid (bl_call (bl_call HBW.out HB3.out) hb4)
    clear hb4
    go_wp2_with fail
    go_ret
    exact ⟨rfl, HB4.out⟩
  have hct : countS t ≤ 200 := (few10_count hfew).1
  rw [hfew] at CF
  have C1 : Hid (∀ W, Below w.heap.size w W → Calls Try.prog 39 #[.agg #[.int .i64 t.kind, .string t.text, .int .i64 t.cols, .slice A t.kids.length cap]] W (AllRes W (validS t) (allS [] t))) := fun W h => pall_any t A cap W (hv.below h h.size) htx
  have C2 : Hid (∀ W, Below w.heap.size w W → Calls Try.prog 35 #[.agg #[.int .i64 t.kind, .string t.text, .int .i64 t.cols, .slice A t.kids.length cap]] W (AllRes W (validS t) (allS [] t))) := fun W h => rAll_any t A cap W (hv.below h h.size) htx (by omega)
  have C3 : Hid (∀ W, Below w.heap.size w W → Calls Try.prog 40 #[.agg #[.int .i64 t.kind, .string t.text, .int .i64 t.cols, .slice A t.kids.length cap]] W (PosRes W (firstR t))) := fun W h => first_any t A cap W (hv.below h h.size) htx
  have C4 : Hid (∀ W, Below w.heap.size w W → Calls Try.prog 41 #[.agg #[.int .i64 t.kind, .string t.text, .int .i64 t.cols, .slice A t.kids.length cap]] W (PosRes W (lastR t))) := fun W h => last_any t A cap W (hv.below h h.size) htx
  have CM : Hid (∀ (m : List Int) (W : World) (S1 S2 : Nat → Prop) (v1 v2 : Value), IntsR W S1 m v1 → IntsR W S2 m v2 → Calls Try.prog 23 #[v1, v2] W fun e w' => e = .returned (.bool true) ∧ ∃ n, w' = W.drewN n) := by
    intro m W S1 S2 v1 v2 h1 h2
    have h := same_q _ _ W v1 v2 S1 S2 h1 h2
    rw [decide_eq_true ((cmpS_zero _ _).2 rfl)] at h
    exact h
  cases hvv : validS t
  · have e1 : firstR t = ([], 1) := by simp [firstR, hvv]
    have e2 : lastR t = ([], 1) := by simp [lastR, hvv]
    rw [hvv] at C1 C2
    rw [e1] at C3
    rw [e2] at C4
    generalize allS [] t = L at *
    obtain ⟨tk, tx, tc, ts⟩ := t
    simp only [Tree.kind, Tree.text, Tree.cols, Tree.kids] at *
    clear hv htx hfew hct e1 e2 hvv
    go_enter Try.func9, Try.ntmps9
    go_wp2_with fail
    refine (awake10_any _).mono ?_
    rintro e w1 ⟨rfl, hb1⟩
    obtain ⟨⟨k0, k1, k2, k3⟩, hbw, hz1⟩ := KB.out w1 hb1
    have HBW := hid hbw
    have KE : Hid (∀ W, Below w1.heap.size w1 W → (W.cell? ⟨w.heap.size, 0, none⟩ = some (.int .i64 tk) ∧ W.cell? ⟨w.heap.size, 1, none⟩ = some (.string tx) ∧ W.cell? ⟨w.heap.size, 2, none⟩ = some (.int .i64 tc) ∧ W.cell? ⟨w.heap.size, 3, none⟩ = some (.slice A ts.length cap)) ∧ Below w.heap.size w W ∧ w.heap.size < W.heap.size) := fun W h => KB.out W (hb1.trans (h.mono hb1.size))
    clear hb1 hbw KB
    go_wp2_with fail
    refine (CF.out _ HBW.out).mono ?_
    rintro e w2 ⟨rfl, hb2⟩
    have HB2 : Hid (Below w1.heap.size w1 w2) := hid hb2
    clear hb2 k0 k1 k2 k3 hz1 HBW
    obtain ⟨⟨k0, k1, k2, k3⟩, hbw, hz1⟩ := KE.out w2 HB2.out
    have HBW := hid hbw
    clear hbw CF
    go_wp2_with fail
    refine (C1.out _ HBW.out).mono ?_
    rintro e w3 ⟨hb3, (⟨_, rfl⟩ | ⟨h, _⟩)⟩
    rotate_left
    · cases h
    have HB3 := hid (bl_call HB2.out hb3)
    clear hb3 k0 k1 k2 k3 hz1 HBW
    obtain ⟨⟨k0, k1, k2, k3⟩, hbw, hz1⟩ := KE.out w3 HB3.out
    have HBW := hid hbw
    clear hbw
    go_wp2_with fail
    refine (C2.out _ HBW.out).mono ?_
    rintro e w4 ⟨hb4, (⟨_, rfl⟩ | ⟨h, _⟩)⟩
    rotate_left
    · cases h
    have HB4 := hid (bl_call HB3.out hb4)
    clear hb4 k0 k1 k2 k3 hz1 HBW
    obtain ⟨⟨k0, k1, k2, k3⟩, hbw, hz1⟩ := KE.out w4 HB4.out
    have HBW := hid hbw
    clear hbw
    go_wp2_with fail
    refine (C3.out _ HBW.out).mono ?_
    rintro e w5 ⟨hb5, v5, rfl, hi5⟩
    obtain ⟨B5, d5, rfl⟩ := SliceR.form hi5
    have HB5 := hid (bl_call HB4.out hb5)
    clear hb5 hi5 k0 k1 k2 k3 hz1 HBW
    obtain ⟨⟨k0, k1, k2, k3⟩, hbw, hz1⟩ := KE.out w5 HB5.out
    have HBW := hid hbw
    clear hbw
    go_wp2_with fail
    refine (C4.out _ HBW.out).mono ?_
    rintro e w6 ⟨hb6, v6, rfl, hi6⟩
    obtain ⟨B6, d6, rfl⟩ := SliceR.form hi6
    have HB6 := hid (bl_call HBW.out hb6)
    clear hb6 hi6 k0 k1 k2 k3 hz1 HBW
    go_wp2_with fail
    go_loop [62] (fun i => i = .int .i64 0) (fun _ => 0)
    case atStart => exact rfl
    case round =>
      obtain rfl := hrel
      go_wp2_with fail
      go_ret
      exact ⟨rfl, HB6.out⟩
  · have e1 : firstR t = ([0], 0) := by simp [firstR, hvv]
    have e2 : lastR t = ([(t.kids.length : Int)], 0) := by simp [lastR, hvv]
    rw [hvv] at C1 C2
    rw [e1] at C3
    rw [e2] at C4
    have hpos := allS_pos t
    have HA0 : Hid (∀ h : 0 < (allS [] t).length, (allS [] t)[0] = [0]) := allS_at_first t
    have HAL : Hid (∀ h : (allS [] t).length - 1 < (allS [] t).length, (allS [] t)[(allS [] t).length - 1] = [(t.kids.length : Int)]) := allS_at_last t
    have hle := allS_le t (by omega)
    generalize allS [] t = L at *
    obtain ⟨tk, tx, tc, ts⟩ := t
    simp only [Tree.kind, Tree.text, Tree.cols, Tree.kids] at *
    clear hv htx hfew hct e1 e2 hvv
    go_enter Try.func9, Try.ntmps9
    go_wp2_with fail
    refine (awake10_any _).mono ?_
    rintro e w1 ⟨rfl, hb1⟩
    obtain ⟨⟨k0, k1, k2, k3⟩, hbw, hz1⟩ := KB.out w1 hb1
    have HBW := hid hbw
    have KE : Hid (∀ W, Below w1.heap.size w1 W → (W.cell? ⟨w.heap.size, 0, none⟩ = some (.int .i64 tk) ∧ W.cell? ⟨w.heap.size, 1, none⟩ = some (.string tx) ∧ W.cell? ⟨w.heap.size, 2, none⟩ = some (.int .i64 tc) ∧ W.cell? ⟨w.heap.size, 3, none⟩ = some (.slice A ts.length cap)) ∧ Below w.heap.size w W ∧ w.heap.size < W.heap.size) := fun W h => KB.out W (hb1.trans (h.mono hb1.size))
    clear hb1 hbw KB
    go_wp2_with fail
    refine (CF.out _ HBW.out).mono ?_
    rintro e w2 ⟨rfl, hb2⟩
    have HB2 : Hid (Below w1.heap.size w1 w2) := hid hb2
    clear hb2 k0 k1 k2 k3 hz1 HBW
    obtain ⟨⟨k0, k1, k2, k3⟩, hbw, hz1⟩ := KE.out w2 HB2.out
    have HBW := hid hbw
    clear hbw CF
    go_wp2_with fail
    refine (C1.out _ HBW.out).mono ?_
    rintro e w3 ⟨hb3, (⟨h, _⟩ | ⟨_, v3, rfl, hr3⟩)⟩
    · cases h
    obtain ⟨B3, d3, rfl⟩ := hr3.rows.form
    have HR3 := hid hr3
    have HB3 := hid (bl_call HB2.out hb3)
    clear hb3 hr3 k0 k1 k2 k3 hz1 HBW
    obtain ⟨⟨k0, k1, k2, k3⟩, hbw, hz1⟩ := KE.out w3 HB3.out
    have HBW := hid hbw
    clear hbw
    go_wp2_with fail
    refine (C2.out _ HBW.out).mono ?_
    rintro e w4 ⟨hb4, (⟨h, _⟩ | ⟨_, v4, rfl, hr4⟩)⟩
    · cases h
    obtain ⟨B4, d4, rfl⟩ := hr4.rows.form
    have HR4 := hid hr4
    have HR3 := hid (HR3.out.below hb4)
    have HB4 := hid (bl_call HB3.out hb4)
    clear hb4 hr4 k0 k1 k2 k3 hz1 HBW
    obtain ⟨⟨k0, k1, k2, k3⟩, hbw, hz1⟩ := KE.out w4 HB4.out
    have HBW := hid hbw
    clear hbw
    go_wp2_with fail
    refine (C3.out _ HBW.out).mono ?_
    rintro e w5 ⟨hb5, v5, rfl, hi5⟩
    obtain ⟨B5, d5, rfl⟩ := SliceR.form hi5
    have HI5 := hid hi5
    have HR4 := hid (HR4.out.below hb5)
    have HR3 := hid (HR3.out.below hb5)
    have HB5 := hid (bl_call HB4.out hb5)
    clear hb5 hi5 k0 k1 k2 k3 hz1 HBW
    obtain ⟨⟨k0, k1, k2, k3⟩, hbw, hz1⟩ := KE.out w5 HB5.out
    have HBW := hid hbw
    clear hbw
    go_wp2_with fail
    refine (C4.out _ HBW.out).mono ?_
    rintro e w6 ⟨hb6, v6, rfl, hi6⟩
    obtain ⟨B6, d6, rfl⟩ := SliceR.form hi6
    have HI6 := hid hi6
    have HI5 := hid (ints_bl HI5.out hb6)
    have HR4 := hid (HR4.out.below hb6)
    have HR3 := hid (HR3.out.below hb6)
    have HB6 := hid (bl_call HBW.out hb6)
    clear hb6 hi6 k0 k1 k2 k3 hz1 HBW
    have l1 : L.length ≤ 9223372036854775807 := by omega
    go_wp2_with fail
    go_loopw [62] (fun i wr => (∃ n, wr = w6.drewN n) ∧ ∃ k : Nat, k ≤ L.length ∧ i = .int .i64 k) (fun i _ => L.length - (intOf i).toNat)
    case atStart => exact ⟨⟨0, rfl⟩, 0, Nat.zero_le _, rfl⟩
    case round =>
      obtain ⟨⟨n, rfl⟩, k, hk, rfl⟩ := hrel
      rcases Nat.lt_or_ge k L.length with hlt | hge
      · obtain ⟨g1, o1, A1, c1, rfl, q1, hq1⟩ := row_at (w := w) HR3.out hlt
        obtain ⟨g2, o2, A2, c2, rfl, q2, hq2⟩ := row_at (w := w) HR4.out hlt
        have i1 : (k : Int) < (L.length : Int) := by omega
        have i2 : (0 : Int) ≤ (k : Int) := by omega
        have HQ : Hid (∀ m, Calls Try.prog 23 #[.slice A1 L[k].length c1, .slice A2 L[k].length c2] (w6.drewN (n + m)) fun e w' => e = .returned (.bool true) ∧ ∃ k, w' = w6.drewN (n + k)) := fun m => (CM.out _ _ _ _ _ _ (ints_dn hq1 (n + m)) (ints_dn hq2 (n + m))).mono fun e w' ⟨h1, k, h2⟩ => ⟨h1, m + k, by rw [h2, World.drewN_drewN, Nat.add_assoc]⟩
        clear hq1 hq2
        generalize L[k].length = z at *
        go_wp2_with fail
        go_quiet ((go_at_call 23; exact HQ.out _))
        go_wp2_with fail
        go_roundw
        case rel => exact ⟨by first | exact ⟨_, rfl⟩ | (simp only [World.drewN_drewN]; exact ⟨_, rfl⟩), k + 1, by omega, by go_num⟩
        case measure => simp [intOf]; omega
      · have hke : k = L.length := by omega
        subst hke
        obtain ⟨g2, o2, A2, c2, hB4, q2, hq2⟩ := row_at (w := w) HR4.out hpos
        obtain ⟨g3, o3, A3, c3, hB4', q3, hq3⟩ := row_at (w := w) HR4.out (show L.length - 1 < L.length by omega)
        subst hB4
        cases hB4'
        rw [HA0.out hpos] at q2 hq2
        rw [HAL.out (by omega)] at q3 hq3
        have HC1 : Hid (∀ m, Calls Try.prog 23 #[.slice B5 [(0 : Int)].length d5, .slice A2 [(0 : Int)].length c2] (w6.drewN m) fun e w' => e = .returned (.bool true) ∧ ∃ k, w' = w6.drewN k) := fun m => (CM.out _ _ _ _ _ _ (ints_dn HI5.out m) (ints_dn hq2 m)).mono fun e w' ⟨h1, k, h2⟩ => ⟨h1, m + k, by rw [h2, World.drewN_drewN]⟩
        have HC2 : Hid (∀ m, Calls Try.prog 23 #[.slice B6 [(ts.length : Int)].length d6, .slice A3 [(ts.length : Int)].length c3] (w6.drewN m) fun e w' => e = .returned (.bool true) ∧ ∃ k, w' = w6.drewN k) := fun m => (CM.out _ _ _ _ _ _ (ints_dn HI6.out m) (ints_dn hq3 m)).mono fun e w' ⟨h1, k, h2⟩ => ⟨h1, m + k, by rw [h2, World.drewN_drewN]⟩
        simp only [List.length_cons, List.length_nil, Nat.add_zero] at HC1 HC2 q2 q3
        have i1 : (0 : Int) < (L.length : Int) := by omega
        have i2 : (0 : Int) ≤ (L.length : Int) - 1 := by omega
        have i3 : (L.length : Int) - 1 < (L.length : Int) := by omega
        have i4 : ((L.length : Int) - 1).toNat = L.length - 1 := by omega
        clear hq2 hq3 hge
        go_wp2_with (first
          | (go_at_call 23; with_reducible refine (HC1.out _).mono ?_; rintro e w7 ⟨rfl, n7, rfl⟩)
          | (go_at_call 23; with_reducible refine (HC2.out _).mono ?_; rintro e w8 ⟨rfl, n8, rfl⟩))
        go_ret
        exact ⟨rfl, by first | exact bl_dn HB6.out | exact bl_dn (bl_dn HB6.out) | exact bl_dn (bl_dn (bl_dn HB6.out))⟩
end Go.Proofs.Ytognlokeadlpbaa
