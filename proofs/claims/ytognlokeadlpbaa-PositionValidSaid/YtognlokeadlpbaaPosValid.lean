/- vinculumlaw10.PositionValid: the walk. Written by wip/genlaw10.py. -/
import Derived.Test.YtognlokeadlpbaaAwk10
import Derived.Test.YtognlokeadlpbaaPos3
import Derived.Test.YtognlokeadlpbaaIdx
set_option linter.unusedVariables false
set_option linter.unusedSimpArgs false
set_option maxRecDepth 100000
namespace Go.Proofs.Ytognlokeadlpbaa
open Go.RowKit

set_option maxHeartbeats 4000000 in
theorem posValid_walk (t : Tree) (p : List Int) (A Ap : Option Addr) (cap cp : Nat) (w : World) (hv : SliceR treeE w (Lt w.heap.size) t.kids (.slice A t.kids.length cap)) (htx : t.text.size ≤ maxLen) (hp : IntsR w (Lt w.heap.size) p (.slice Ap p.length cp)) :
    Calls Try.prog 7 #[.agg #[.int .i64 t.kind, .string t.text, .int .i64 t.cols, .slice A t.kids.length cap], .slice Ap p.length cp] w fun e w' => e = .returned (.bool true) ∧ Below w.heap.size w w' := by
  have KB : Hid (∀ W, Below (w.alloc (.cells #[.int .i64 t.kind, .string t.text, .int .i64 t.cols, .slice A t.kids.length cap] 24)).heap.size (w.alloc (.cells #[.int .i64 t.kind, .string t.text, .int .i64 t.cols, .slice A t.kids.length cap] 24)) W →
      (W.cell? ⟨w.heap.size, 0, none⟩ = some (.int .i64 t.kind) ∧ W.cell? ⟨w.heap.size, 1, none⟩ = some (.string t.text) ∧ W.cell? ⟨w.heap.size, 2, none⟩ = some (.int .i64 t.cols) ∧ W.cell? ⟨w.heap.size, 3, none⟩ = some (.slice A t.kids.length cap)) ∧ Below w.heap.size w W ∧ w.heap.size < W.heap.size) := by
    intro W hW
    have hc := (bcell hW).1
    exact ⟨⟨(hc _ _ (by simp)).trans (na_c _ _ _ _ _ rfl), (hc _ _ (by simp)).trans (na_c _ _ _ _ _ rfl), (hc _ _ (by simp)).trans (na_c _ _ _ _ _ rfl), (hc _ _ (by simp)).trans (na_c _ _ _ _ _ rfl)⟩, (below_allocR' _ _).trans (hW.mono (by simp)), by have := hW.size; simp at this; omega⟩
  have hla := hp.lens
  have CF : Hid (∀ W, Below w.heap.size w W → Calls Try.prog 34 #[.agg #[.int .i64 t.kind, .string t.text, .int .i64 t.cols, .slice A t.kids.length cap], .slice Ap p.length cp] W fun e w' => e = .returned (.bool (few10S t p)) ∧ Below W.heap.size W w') := fun W hW => few10_any t p A Ap cap cp W (hv.below hW hW.size) hla
  cases hfew : few10S t p
  · rw [hfew] at CF
    obtain ⟨tk, tx, tc, ts⟩ := t
    simp only [Tree.kind, Tree.text, Tree.cols, Tree.kids] at *
    clear hv htx hp hfew hla
    go_enter Try.func7, Try.ntmps7
    go_wp2_with fail
    refine (awake10_any _).mono ?_
    rintro e w1 ⟨rfl, hb1⟩
    obtain ⟨⟨m0, m1, m2, m3⟩, hbw, hz1⟩ := KB.out w1 hb1
    have HBW := hid hbw
    clear hb1 hbw
    go_wp2_with fail
    refine (CF.out _ HBW.out).mono ?_
    rintro e w3 ⟨rfl, hb3⟩
    have HB3 : Hid (Below w1.heap.size w1 w3) := hid hb3
    clear hb3
    go_wp2_with fail
    refine (awake10_any _).mono ?_
    rintro e w4 ⟨rfl, hb4⟩
    have HB4 := hid (bl_call (bl_call HBW.out HB3.out) hb4)
    clear hb4
    go_wp2_with fail
    go_ret
    exact ⟨rfl, HB4.out⟩
  have hct : countS t ≤ 200 := (few10_count hfew).1
  rw [hfew] at CF
  have C1 : Hid (∀ W, Below w.heap.size w W → Calls Try.prog 35 #[.agg #[.int .i64 t.kind, .string t.text, .int .i64 t.cols, .slice A t.kids.length cap]] W (AllRes W (validS t) (allS [] t))) := fun W h => rAll_any t A cap W (hv.below h h.size) htx (by omega)
  have C2 : Hid (∀ W, Below w.heap.size w W → Calls Try.prog 36 #[.agg #[.int .i64 t.kind, .string t.text, .int .i64 t.cols, .slice A t.kids.length cap], .slice Ap p.length cp] W fun e w' => e = .returned (.bool (validS t && posIn t p)) ∧ Below W.heap.size W w') := fun W h => posValid_any t p A cap _ W (hv.below h h.size) htx (hp.below h h.size)
  have C3 : Hid (∀ W, Below w.heap.size w W → Calls Try.prog 37 #[.agg #[.int .i64 t.kind, .string t.text, .int .i64 t.cols, .slice A t.kids.length cap], .slice Ap p.length cp] W fun e w' => e = .returned (.bool (validS t && posIn t p)) ∧ Below W.heap.size W w') := fun W h => rValid_any t p A cap _ W (hv.below h h.size) htx (by omega) (hp.below h h.size)
  have C4 : Hid (∀ W, Below w.heap.size w W → Calls Try.prog 38 #[.agg #[.int .i64 t.kind, .string t.text, .int .i64 t.cols, .slice A t.kids.length cap]] W fun e w' => e = .returned (.int .i64 (countR t)) ∧ Below W.heap.size W w') := fun W h => pcount_any t A cap W (hv.below h h.size) htx
  have C5 : Hid (∀ W, Below w.heap.size w W → Calls Try.prog 35 #[.agg #[.int .i64 t.kind, .string t.text, .int .i64 t.cols, .slice A t.kids.length cap]] W fun e w' => ∃ v er n c, e = .returned (.tuple #[.slice v n c, .int .i64 er]) ∧ (n : Int) = countR t ∧ Below W.heap.size W w') := fun W h => by
    refine (C1.out W h).mono ?_
    rintro e w' ⟨hb, (⟨h1, rfl⟩ | ⟨h1, v, rfl, hr⟩)⟩
    · exact ⟨_, _, _, _, rfl, by simp [countR, h1], hb⟩
    · obtain ⟨A2, c2, rfl⟩ := hr.rows.form
      exact ⟨_, _, _, _, rfl, by simp [countR, h1], hb⟩
  have HCB : Hid (countR t ≤ 400) := by
    show _ ≤ _
    unfold countR
    split
    · rw [allS_len]; have := cntS_le t; omega
    · omega
  have hcb := HCB.out
  generalize countR t = cn at *
  generalize (validS t && posIn t p) = vb at *
  have d1 : (vb == vb) = true := by simp
  have d2 : (cn == cn) = true := by simp
  clear C1
  obtain ⟨tk, tx, tc, ts⟩ := t
  simp only [Tree.kind, Tree.text, Tree.cols, Tree.kids] at *
  clear hv htx hp hfew hla hct
  go_enter Try.func7, Try.ntmps7
  go_wp2_with fail
  refine (awake10_any _).mono ?_
  rintro e w1 ⟨rfl, hb1⟩
  obtain ⟨⟨k0, k1, k2, k3⟩, hbw, hz1⟩ := KB.out w1 hb1
  have HBW := hid hbw
  have KE : Hid (∀ W, Below w1.heap.size w1 W → (W.cell? ⟨w.heap.size, 0, none⟩ = some (.int .i64 tk) ∧ W.cell? ⟨w.heap.size, 1, none⟩ = some (.string tx) ∧ W.cell? ⟨w.heap.size, 2, none⟩ = some (.int .i64 tc) ∧ W.cell? ⟨w.heap.size, 3, none⟩ = some (.slice A ts.length cap)) ∧ Below w.heap.size w W ∧ w.heap.size < W.heap.size) := fun W h => KB.out W (hb1.trans (h.mono hb1.size))
  clear hb1 hbw KB
  go_wp2_with fail
  refine (CF.out _ HBW.out).mono ?_
  rintro e w2 ⟨rfl, hb2⟩
  have HB2 : Hid (Below w1.heap.size w1 w2) := hid hb2
  clear hb2 k0 k1 k2 k3 hz1 HBW
  obtain ⟨⟨k0, k1, k2, k3⟩, hbw, hz1⟩ := KE.out w2 HB2.out
  have HBW := hid hbw
  clear hbw CF
  go_wp2_with fail
  refine (C5.out _ HBW.out).mono ?_
  rintro e w3 ⟨A3, er, n3, c3, rfl, hn3, hb3⟩
  have HB3 := hid (bl_call HB2.out hb3)
  subst hn3
  clear hb3 k0 k1 k2 k3 hz1 HBW
  obtain ⟨⟨k0, k1, k2, k3⟩, hbw, hz1⟩ := KE.out w3 HB3.out
  have HBW := hid hbw
  clear hbw
  have KC : Hid (∀ W, Below w3.heap.size w3 W → (W.cell? ⟨w.heap.size, 0, none⟩ = some (.int .i64 tk) ∧ W.cell? ⟨w.heap.size, 1, none⟩ = some (.string tx) ∧ W.cell? ⟨w.heap.size, 2, none⟩ = some (.int .i64 tc) ∧ W.cell? ⟨w.heap.size, 3, none⟩ = some (.slice A ts.length cap)) ∧ Below w.heap.size w W) := fun W h => by
    obtain ⟨a, b, _⟩ := KE.out W (HB3.out.trans (h.mono HB3.out.size))
    exact ⟨a, b⟩
  have hz3 : w.heap.size < w3.heap.size := hz1
  have d3 : decide ((n3 : Int) = (n3 : Int)) = true := by simp
  go_wp2_with fail
  go_region_held3 (fun w' => w'.cell? ⟨w.heap.size, 0, none⟩ = some (.int .i64 tk) ∧ w'.cell? ⟨w.heap.size, 1, none⟩ = some (.string tx) ∧ w'.cell? ⟨w.heap.size, 2, none⟩ = some (.int .i64 tc) ∧ w'.cell? ⟨w.heap.size, 3, none⟩ = some (.slice A ts.length cap)) (go_keep) (first
    | (go_at_call 36; refine (C2.out _ (bl_drew HBW.out)).mono ?_; rintro e w4 ⟨rfl, hb4⟩; have HB4 : Hid (Below w3.heap.size w3 w4) := below_of_drewS hb4; clear hb4; obtain ⟨⟨q0, q1, q2, q3⟩, kb⟩ := KC.out _ HB4.out; have HK4 := hid kb; clear kb)
    | (go_at_call 37; refine (C3.out _ HK4.out).mono ?_; rintro e w5 ⟨rfl, hb5⟩; have HB5 := hid (bl_call HB4.out hb5); clear hb5; obtain ⟨⟨q0, q1, q2, q3⟩, kb⟩ := KC.out _ HB5.out; have HK5 := hid kb; clear kb)
    | (go_at_call 38; refine (C4.out _ HK5.out).mono ?_; rintro e w6 ⟨rfl, hb6⟩; have HB6 := hid (bl_call HB5.out hb6); clear hb6; obtain ⟨⟨q0, q1, q2, q3⟩, kb⟩ := KC.out _ HB6.out; have HK6 := hid kb; clear kb))
  go_wp2_with fail
  go_ret
  exact ⟨rfl, HK6.out⟩
end Go.Proofs.Ytognlokeadlpbaa
