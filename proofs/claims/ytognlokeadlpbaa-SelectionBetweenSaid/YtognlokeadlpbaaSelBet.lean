/- vinculumlaw11.SelectionBetween: the walk. -/
import Derived.Test.YtognlokeadlpbaaAwk11
import Derived.Test.YtognlokeadlpbaaSel8
import Derived.Deep.RegionHeld3
set_option linter.unusedVariables false
set_option linter.unusedSimpArgs false
set_option maxRecDepth 100000
namespace Go.Proofs.Ytognlokeadlpbaa
open Go.RowKit

def Got (w : World) (m : List Int) (x y er : Int) (e : Ending) (w' : World) : Prop :=
  ∃ v, e = .returned (.tuple #[.agg #[v, .int .i64 x, .int .i64 y], .int .i64 er]) ∧ IntsR w' (fun k => w.heap.size ≤ k ∧ k < w'.heap.size) m v ∧ Below w.heap.size w w'
theorem BetV.got {w w' : World} {r : (List Int × Int × Int) × Int} {e : Ending} (h : BetV w r e w') : Got w r.1.1 r.1.2.1 r.1.2.2 r.2 e w' := h

set_option maxHeartbeats 4000000 in
theorem selBet_walk (t : Tree) (a b : List Int) (A Aa Ab : Option Addr) (cap ca cb : Nat) (w : World) (hv : SliceR treeE w (Lt w.heap.size) t.kids (.slice A t.kids.length cap)) (htx : t.text.size ≤ maxLen) (ha : IntsR w (Lt w.heap.size) a (.slice Aa a.length ca)) (hb : IntsR w (Lt w.heap.size) b (.slice Ab b.length cb)) :
    Calls Try.prog 3 #[.agg #[.int .i64 t.kind, .string t.text, .int .i64 t.cols, .slice A t.kids.length cap], .slice Aa a.length ca, .slice Ab b.length cb] w fun e w' => e = .returned (.bool true) ∧ Below w.heap.size w w' := by
  have KB : Hid (∀ W, Below (w.alloc (Obj.cells #[.int .i64 t.kind, .string t.text, .int .i64 t.cols, .slice A t.kids.length cap] 24)).heap.size (w.alloc (Obj.cells #[.int .i64 t.kind, .string t.text, .int .i64 t.cols, .slice A t.kids.length cap] 24)) W → (W.cell? ⟨w.heap.size, 0, none⟩ = some (.int .i64 t.kind) ∧ W.cell? ⟨w.heap.size, 1, none⟩ = some (.string t.text) ∧ W.cell? ⟨w.heap.size, 2, none⟩ = some (.int .i64 t.cols) ∧ W.cell? ⟨w.heap.size, 3, none⟩ = some (.slice A t.kids.length cap)) ∧ Below w.heap.size w W ∧ w.heap.size < W.heap.size) := by
    intro W hW
    have hc := (bcell hW).1
    exact ⟨⟨(hc _ _ (by simp)).trans (na_c _ _ _ _ _ rfl), (hc _ _ (by simp)).trans (na_c _ _ _ _ _ rfl), (hc _ _ (by simp)).trans (na_c _ _ _ _ _ rfl), (hc _ _ (by simp)).trans (na_c _ _ _ _ _ rfl)⟩, (below_allocR' _ _).trans (hW.mono (by simp)), by have := hW.size; simp at this; omega⟩
  have hla := ha.lens
  have hlb := hb.lens
  have CF : Hid (∀ W, Below w.heap.size w W → Calls Try.prog 15 #[.agg #[.int .i64 t.kind, .string t.text, .int .i64 t.cols, .slice A t.kids.length cap], .slice Aa a.length ca, .slice Ab b.length cb] W fun e w' => e = .returned (.bool (few11S t a b)) ∧ Below W.heap.size W w') := fun W hW => few11_any t a b A Aa Ab cap ca cb W (hv.below hW hW.size) hla hlb
  cases hfew : few11S t a b
  · rw [hfew] at CF
    obtain ⟨tk, tx, tc, ts⟩ := t
    simp only [Tree.kind, Tree.text, Tree.cols, Tree.kids] at *
    clear hv htx ha hb hfew hla hlb
    go_enter Try.func3, Try.ntmps3
    go_wp2_with fail
    refine (awake11_any _).mono ?_
    rintro e w1 ⟨rfl, hb1⟩
    obtain ⟨⟨m0, m1, m2, m3⟩, hbw, hz1⟩ := KB.out w1 hb1
    have HBW := hid hbw
    clear hb1 hbw
    go_wp2_with fail
    refine (CF.out _ HBW.out).mono ?_
    rintro e w3 ⟨rfl, hb3⟩
    have HB3 : Hid (Below w1.heap.size w1 w3) := hid hb3
    clear hb3
    go_wp2_with fail
    refine (awake11_any _).mono ?_
    rintro e w4 ⟨rfl, hb4⟩
    have HB4 := hid (bl_call (bl_call HBW.out HB3.out) hb4)
    clear hb4
    go_wp2_with fail
    go_ret
    exact ⟨rfl, HB4.out⟩
  have hct : countS t ≤ 900000 := by
    unfold few11S at hfew
    simp only [Bool.and_eq_true] at hfew
    have := few_count hfew.1.1
    omega
  rw [hfew] at CF
  have C1 : Hid (∀ W, Below w.heap.size w W → Calls Try.prog 16 #[.agg #[.int .i64 t.kind, .string t.text, .int .i64 t.cols, .slice A t.kids.length cap], .slice Aa a.length ca, .slice Ab b.length cb] W (Got W (betV (validS t) (posIn t a) (posIn t b) (btS a b)).1.1 (betV (validS t) (posIn t a) (posIn t b) (btS a b)).1.2.1 (betV (validS t) (posIn t a) (posIn t b) (btS a b)).1.2.2 (betV (validS t) (posIn t a) (posIn t b) (btS a b)).2)) := fun W hW => (selBetween_any t a b A cap _ _ W (hv.below hW hW.size) htx (ha.below hW hW.size) (hb.below hW hW.size)).mono fun e w' h => (BetRes.v h).got
  have C2 : Hid (∀ W, Below w.heap.size w W → Calls Try.prog 17 #[.agg #[.int .i64 t.kind, .string t.text, .int .i64 t.cols, .slice A t.kids.length cap], .slice Aa a.length ca, .slice Ab b.length cb] W (Got W (betV (validS t) (posIn t a) (posIn t b) (btS a b)).1.1 (betV (validS t) (posIn t a) (posIn t b) (btS a b)).1.2.1 (betV (validS t) (posIn t a) (posIn t b) (btS a b)).1.2.2 (betV (validS t) (posIn t a) (posIn t b) (btS a b)).2)) := fun W hW => (rBetween_any t a b A cap _ _ W (hv.below hW hW.size) htx hct (ha.below hW hW.size) (hb.below hW hW.size)).mono fun e w' h => (BetRes.v h).got
  have C3 : Hid (∀ W, Below w.heap.size w W → Calls Try.prog 18 #[.agg #[.int .i64 t.kind, .string t.text, .int .i64 t.cols, .slice A t.kids.length cap], .agg #[.slice Aa a.length ca, .slice Ab b.length cb]] W (Got W (ofS t a b).1.1 (ofS t a b).1.2.1 (ofS t a b).1.2.2 (ofS t a b).2)) := fun W hW => (selOf_any t a b A Aa Ab cap ca cb W (hv.below hW hW.size) htx (ha.below hW hW.size) (hb.below hW hW.size)).mono fun e w' h => h.got
  have C4 : Hid (∀ W, Below w.heap.size w W → Calls Try.prog 19 #[.agg #[.int .i64 t.kind, .string t.text, .int .i64 t.cols, .slice A t.kids.length cap], .agg #[.slice Aa a.length ca, .slice Ab b.length cb]] W (Got W (ofS t a b).1.1 (ofS t a b).1.2.1 (ofS t a b).1.2.2 (ofS t a b).2)) := fun W hW => (rOf_any t a b A Aa Ab cap ca cb W (hv.below hW hW.size) htx (ha.below hW hW.size) (hb.below hW hW.size) hct).mono fun e w' h => h.got
  generalize betV (validS t) (posIn t a) (posIn t b) (btS a b) = r1 at *
  generalize ofS t a b = r2 at *
  obtain ⟨⟨m, x, y⟩, er⟩ := r1
  obtain ⟨⟨n, x2, y2⟩, er2⟩ := r2
  have e1 : (er == er) = true := by simp
  have e2 : (er2 == er2) = true := by simp
  obtain ⟨tk, tx, tc, ts⟩ := t
  simp only [Tree.kind, Tree.text, Tree.cols, Tree.kids] at *
  clear hv htx ha hb hfew hla hlb hct
  go_enter Try.func3, Try.ntmps3
  go_wp2_with fail
  refine (awake11_any _).mono ?_
  rintro e w1 ⟨rfl, hb1⟩
  obtain ⟨⟨k0, k1, k2, k3⟩, hbw, hz3⟩ := KB.out w1 hb1
  have HBW := hid hbw
  have KE : Hid (∀ W, Below w1.heap.size w1 W → (W.cell? ⟨w.heap.size, 0, none⟩ = some (.int .i64 tk) ∧ W.cell? ⟨w.heap.size, 1, none⟩ = some (.string tx) ∧ W.cell? ⟨w.heap.size, 2, none⟩ = some (.int .i64 tc) ∧ W.cell? ⟨w.heap.size, 3, none⟩ = some (.slice A ts.length cap)) ∧ Below w.heap.size w W ∧ w.heap.size < W.heap.size) := fun W h => KB.out W (hb1.trans (h.mono hb1.size))
  clear hb1 hbw
  go_wp2_with fail
  refine (CF.out _ HBW.out).mono ?_
  rintro e w3 ⟨rfl, hb3⟩
  have HB3 : Hid (Below w1.heap.size w1 w3) := hid hb3
  clear hb3 k0 k1 k2 k3 hz3
  obtain ⟨⟨k0, k1, k2, k3⟩, kb, hz3⟩ := KE.out _ HB3.out
  have HK3 := hid kb
  clear kb
  go_wp2_with fail
  refine (C1.out _ HK3.out).mono ?_
  rintro e w4 ⟨v4, rfl, hi4, hb4⟩
  obtain ⟨A4, c4, rfl⟩ := hi4.form
  have HI4 := hid hi4
  have HB4 := hid (bl_call HB3.out hb4)
  clear hi4 hb4 k0 k1 k2 k3 hz3
  obtain ⟨⟨k0, k1, k2, k3⟩, kb, hz4⟩ := KE.out _ HB4.out
  have HK4 := hid kb
  clear kb
  go_wp2_with fail
  have K4 : Hid (∀ W, Below (w4.alloc (Obj.cells #[.slice A4 m.length c4, .int .i64 x, .int .i64 y] 29)).heap.size (w4.alloc (Obj.cells #[.slice A4 m.length c4, .int .i64 x, .int .i64 y] 29)) W → (W.cell? ⟨w4.heap.size, 0, none⟩ = some (.slice A4 m.length c4) ∧ W.cell? ⟨w4.heap.size, 1, none⟩ = some (.int .i64 x) ∧ W.cell? ⟨w4.heap.size, 2, none⟩ = some (.int .i64 y)) ∧ IntsR W (Lt W.heap.size) m (.slice A4 m.length c4)) := by
    intro W hW
    have hc := (bcell hW).1
    have hbb : Below w4.heap.size w4 W := (below_allocR' _ _).trans (hW.mono (by simp))
    exact ⟨⟨(hc _ _ (by simp)).trans (na_c _ _ _ _ _ rfl), (hc _ _ (by simp)).trans (na_c _ _ _ _ _ rfl), (hc _ _ (by simp)).trans (na_c _ _ _ _ _ rfl)⟩, HI4.out.keep (fun p hp => hbb.cell hp.2) (fun j hj => by unfold Lt; have := hj.2; have := hbb.size; omega)⟩
  refine (C2.out _ (bl_alloc HK4.out _)).mono ?_
  rintro e w5 ⟨v5, rfl, hi5, hb5⟩
  obtain ⟨A5, c5, rfl⟩ := hi5.form
  have HI5 := hid hi5
  have HB5 := hid (bl_call (bl_alloc HB4.out _) hb5)
  have HX4_5 := hid hb5
  clear hi5 hb5 k0 k1 k2 k3 hz4
  obtain ⟨⟨k0, k1, k2, k3⟩, kb, hz5⟩ := KE.out _ HB5.out
  have HK5 := hid kb
  clear kb
  go_wp2_with fail
  have K5 : Hid (∀ W, Below (w5.alloc (Obj.cells #[.slice A5 m.length c5, .int .i64 x, .int .i64 y] 29)).heap.size (w5.alloc (Obj.cells #[.slice A5 m.length c5, .int .i64 x, .int .i64 y] 29)) W → (W.cell? ⟨w5.heap.size, 0, none⟩ = some (.slice A5 m.length c5) ∧ W.cell? ⟨w5.heap.size, 1, none⟩ = some (.int .i64 x) ∧ W.cell? ⟨w5.heap.size, 2, none⟩ = some (.int .i64 y)) ∧ IntsR W (Lt W.heap.size) m (.slice A5 m.length c5)) := by
    intro W hW
    have hc := (bcell hW).1
    have hbb : Below w5.heap.size w5 W := (below_allocR' _ _).trans (hW.mono (by simp))
    exact ⟨⟨(hc _ _ (by simp)).trans (na_c _ _ _ _ _ rfl), (hc _ _ (by simp)).trans (na_c _ _ _ _ _ rfl), (hc _ _ (by simp)).trans (na_c _ _ _ _ _ rfl)⟩, HI5.out.keep (fun p hp => hbb.cell hp.2) (fun j hj => by unfold Lt; have := hj.2; have := hbb.size; omega)⟩
  refine (C3.out _ (bl_alloc HK5.out _)).mono ?_
  rintro e w6 ⟨v6, rfl, hi6, hb6⟩
  obtain ⟨A6, c6, rfl⟩ := hi6.form
  have HI6 := hid hi6
  have HB6 := hid (bl_call (bl_alloc HB5.out _) hb6)
  have HX4_6 := hid (bl_call (bl_alloc HX4_5.out _) hb6)
  have HX5_6 := hid hb6
  clear hi6 hb6 k0 k1 k2 k3 hz5
  obtain ⟨⟨k0, k1, k2, k3⟩, kb, hz6⟩ := KE.out _ HB6.out
  have HK6 := hid kb
  clear kb
  go_wp2_with fail
  have K6 : Hid (∀ W, Below (w6.alloc (Obj.cells #[.slice A6 n.length c6, .int .i64 x2, .int .i64 y2] 29)).heap.size (w6.alloc (Obj.cells #[.slice A6 n.length c6, .int .i64 x2, .int .i64 y2] 29)) W → (W.cell? ⟨w6.heap.size, 0, none⟩ = some (.slice A6 n.length c6) ∧ W.cell? ⟨w6.heap.size, 1, none⟩ = some (.int .i64 x2) ∧ W.cell? ⟨w6.heap.size, 2, none⟩ = some (.int .i64 y2)) ∧ IntsR W (Lt W.heap.size) n (.slice A6 n.length c6)) := by
    intro W hW
    have hc := (bcell hW).1
    have hbb : Below w6.heap.size w6 W := (below_allocR' _ _).trans (hW.mono (by simp))
    exact ⟨⟨(hc _ _ (by simp)).trans (na_c _ _ _ _ _ rfl), (hc _ _ (by simp)).trans (na_c _ _ _ _ _ rfl), (hc _ _ (by simp)).trans (na_c _ _ _ _ _ rfl)⟩, HI6.out.keep (fun p hp => hbb.cell hp.2) (fun j hj => by unfold Lt; have := hj.2; have := hbb.size; omega)⟩
  refine (C4.out _ (bl_alloc HK6.out _)).mono ?_
  rintro e w7 ⟨v7, rfl, hi7, hb7⟩
  obtain ⟨A7, c7, rfl⟩ := hi7.form
  have HI7 := hid hi7
  have HB7 := hid (bl_call (bl_alloc HB6.out _) hb7)
  have HX4_7 := hid (bl_call (bl_alloc HX4_6.out _) hb7)
  have HX5_7 := hid (bl_call (bl_alloc HX5_6.out _) hb7)
  have HX6_7 := hid hb7
  clear hi7 hb7 k0 k1 k2 k3 hz6
  obtain ⟨⟨k0, k1, k2, k3⟩, kb, hz7⟩ := KE.out _ HB7.out
  have HK7 := hid kb
  clear kb
  go_upto_region 7 with fail
  have K7 : Hid (∀ W, Below (w7.alloc (Obj.cells #[.slice A7 n.length c7, .int .i64 x2, .int .i64 y2] 29)).heap.size (w7.alloc (Obj.cells #[.slice A7 n.length c7, .int .i64 x2, .int .i64 y2] 29)) W → (W.cell? ⟨w7.heap.size, 0, none⟩ = some (.slice A7 n.length c7) ∧ W.cell? ⟨w7.heap.size, 1, none⟩ = some (.int .i64 x2) ∧ W.cell? ⟨w7.heap.size, 2, none⟩ = some (.int .i64 y2)) ∧ IntsR W (Lt W.heap.size) n (.slice A7 n.length c7)) := by
    intro W hW
    have hc := (bcell hW).1
    have hbb : Below w7.heap.size w7 W := (below_allocR' _ _).trans (hW.mono (by simp))
    exact ⟨⟨(hc _ _ (by simp)).trans (na_c _ _ _ _ _ rfl), (hc _ _ (by simp)).trans (na_c _ _ _ _ _ rfl), (hc _ _ (by simp)).trans (na_c _ _ _ _ _ rfl)⟩, HI7.out.keep (fun p hp => hbb.cell hp.2) (fun j hj => by unfold Lt; have := hj.2; have := hbb.size; omega)⟩
  obtain ⟨X7, hX⟩ : ∃ X, w7.alloc (Obj.cells #[.slice A7 n.length c7, .int .i64 x2, .int .i64 y2] 29) = X := ⟨_, rfl⟩
  have h7 := K7.out _ (Below.refl _ _)
  have h4 := K4.out _ (bl_alloc HX4_7.out (Obj.cells #[.slice A7 n.length c7, .int .i64 x2, .int .i64 y2] 29))
  have h5 := K5.out _ (bl_alloc HX5_7.out (Obj.cells #[.slice A7 n.length c7, .int .i64 x2, .int .i64 y2] 29))
  have h6 := K6.out _ (bl_alloc HX6_7.out (Obj.cells #[.slice A7 n.length c7, .int .i64 x2, .int .i64 y2] 29))
  have hk := bl_alloc HK7.out (Obj.cells #[.slice A7 n.length c7, .int .i64 x2, .int .i64 y2] 29)
  have K7' := hid K7.out
  have HX6' := hid (bl_alloc HX6_7.out (Obj.cells #[.slice A7 n.length c7, .int .i64 x2, .int .i64 y2] 29))
  rw [hX] at h4 h5 h6 h7 hk
  have HX6'' : Hid (Below (w6.alloc (Obj.cells #[.slice A6 n.length c6, .int .i64 x2, .int .i64 y2] 29)).heap.size (w6.alloc (Obj.cells #[.slice A6 n.length c6, .int .i64 x2, .int .i64 y2] 29)) X7) := by rw [← hX]; exact HX6'
  have K77 : Hid (∀ W, Below X7.heap.size X7 W → (W.cell? ⟨w7.heap.size, 0, none⟩ = some (.slice A7 n.length c7) ∧ W.cell? ⟨w7.heap.size, 1, none⟩ = some (.int .i64 x2) ∧ W.cell? ⟨w7.heap.size, 2, none⟩ = some (.int .i64 y2)) ∧ IntsR W (Lt W.heap.size) n (.slice A7 n.length c7)) := by rw [← hX]; exact K7'
  rw [hX]
  clear hX HX6' K7'
  obtain ⟨⟨a0, a1, a2⟩, i4⟩ := h4
  obtain ⟨⟨b0, b1, b2⟩, i5⟩ := h5
  have HI4' := hid i4
  have HI5' := hid i5
  have HKX := hid hk
  clear i4 i5 h6 h7 hk k0 k1 k2 k3 hz7
  go_wp2_with fail
  refine (rangeSame_any m x y _ _ _ HI4'.out HI5'.out).mono ?_
  rintro e w8 ⟨rfl, hb8⟩
  obtain ⟨⟨d0, d1, d2⟩, i6⟩ := K6.out _ (bl_call HX6''.out hb8)
  obtain ⟨⟨f0, f1, f2⟩, i7⟩ := K77.out _ hb8
  have HI6' := hid i6
  have HI7' := hid i7
  have HB8 := hid (bl_call HKX.out hb8)
  clear i6 i7 hb8 a0 a1 a2 b0 b1 b2
  go_wp2_with fail
  refine (rangeSame_any n x2 y2 _ _ _ HI6'.out HI7'.out).mono ?_
  rintro e w9 ⟨rfl, hb9⟩
  have HB9 := hid (bl_call HB8.out hb9)
  clear hb9 d0 d1 d2 f0 f1 f2
  go_wp2_with fail
  go_ret
  exact ⟨rfl, HB9.out⟩
end Go.Proofs.Ytognlokeadlpbaa
