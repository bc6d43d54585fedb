/- vinculumlaw11.SelectionContains: the walk. -/
import Derived.Test.YtognlokeadlpbaaAwk11
import Derived.Test.YtognlokeadlpbaaSel4
import Derived.Test.YtognlokeadlpbaaSel5
import Derived.Deep.RegionHeld3
set_option linter.unusedVariables false
set_option linter.unusedSimpArgs false
set_option maxRecDepth 100000
namespace Go.Proofs.Ytognlokeadlpbaa
open Go.RowKit

set_option maxHeartbeats 4000000 in
theorem selCon_walk (row pos : List Int) (from_ to_ : Int) (Ar Ap : Option Addr) (cr cp : Nat) (w : World) (hr : IntsR w (Lt w.heap.size) row (.slice Ar row.length cr)) (hp : IntsR w (Lt w.heap.size) pos (.slice Ap pos.length cp)) (hf : In64 from_) (ht : In64 to_) :
    Calls Try.prog 4 #[.agg #[.slice Ar row.length cr, .int .i64 from_, .int .i64 to_], .slice Ap pos.length cp] w fun e w' => e = .returned (.bool true) ∧ Below w.heap.size w w' := by
  have hl1 : row.length ≤ 9223372036854775807 := by have := hr.lens; unfold maxLen at this; omega
  have hl2 : pos.length ≤ 9223372036854775807 := by have := hp.lens; unfold maxLen at this; omega
  have KB : Hid (∀ W, Below (w.alloc (.cells #[.slice Ar row.length cr, .int .i64 from_, .int .i64 to_] 29)).heap.size (w.alloc (.cells #[.slice Ar row.length cr, .int .i64 from_, .int .i64 to_] 29)) W →
      (W.cell? ⟨w.heap.size, 0, none⟩ = some (.slice Ar row.length cr) ∧ W.cell? ⟨w.heap.size, 1, none⟩ = some (.int .i64 from_) ∧ W.cell? ⟨w.heap.size, 2, none⟩ = some (.int .i64 to_)) ∧ Below w.heap.size w W) := by
    intro W hW
    have hc := (bcell hW).1
    exact ⟨⟨(hc _ _ (by simp)).trans (na_c _ _ _ _ _ rfl), (hc _ _ (by simp)).trans (na_c _ _ _ _ _ rfl), (hc _ _ (by simp)).trans (na_c _ _ _ _ _ rfl)⟩, (below_allocR' _ _).trans (hW.mono (by simp))⟩
  by_cases h1 : row.length ≤ 60
  rotate_left
  · have d1 : decide ((60 : Int) < (row.length : Int)) = true := by simp; omega
    clear hr hp
    go_enter Try.func4, Try.ntmps4
    go_wp2_with fail
    refine (awake11_any _).mono ?_
    rintro e w1 ⟨rfl, hb1⟩
    obtain ⟨⟨m0, m1, m2⟩, hbw⟩ := KB.out w1 hb1
    have HBW := hid hbw
    clear hb1 hbw
    go_wp2_with fail
    refine (awake11_any _).mono ?_
    rintro e w2 ⟨rfl, hb2⟩
    have HB2 := hid (bl_call HBW.out hb2)
    clear hb2
    go_wp2_with fail
    go_ret
    exact ⟨rfl, HB2.out⟩
  have d1 : decide ((60 : Int) < (row.length : Int)) = false := by simp; omega
  by_cases h2 : pos.length ≤ 60
  rotate_left
  · have d2 : decide ((60 : Int) < (pos.length : Int)) = true := by simp; omega
    clear hr hp
    go_enter Try.func4, Try.ntmps4
    go_wp2_with fail
    refine (awake11_any _).mono ?_
    rintro e w1 ⟨rfl, hb1⟩
    obtain ⟨⟨m0, m1, m2⟩, hbw⟩ := KB.out w1 hb1
    have HBW := hid hbw
    clear hb1 hbw
    go_wp2_with fail
    refine (awake11_any _).mono ?_
    rintro e w2 ⟨rfl, hb2⟩
    have HB2 := hid (bl_call HBW.out hb2)
    clear hb2
    go_wp2_with fail
    go_ret
    exact ⟨rfl, HB2.out⟩
  have d2 : decide ((60 : Int) < (pos.length : Int)) = false := by simp; omega
  have CC : Hid (∀ W, Below w.heap.size w W → Calls Try.prog 21 #[.agg #[.slice Ar row.length cr, .int .i64 from_, .int .i64 to_], .slice Ap pos.length cp] W fun e w' => e = .returned (.bool (conS row from_ to_ pos)) ∧ Below W.heap.size W w') :=
    fun W hW => contains_any row pos from_ to_ _ _ W (hr.below hW hW.size) (hp.below hW hW.size) (by omega)
  have CR : Hid (∀ W, Below w.heap.size w W → Calls Try.prog 22 #[.agg #[.slice Ar row.length cr, .int .i64 from_, .int .i64 to_], .slice Ap pos.length cp] W fun e w' => e = .returned (.bool (conS row from_ to_ pos)) ∧ Below W.heap.size W w') :=
    fun W hW => rContains_any row pos from_ to_ _ _ W (hr.below hW hW.size) (hp.below hW hW.size) (by omega)
  have CS1 : Hid (∀ W, Below w.heap.size w W → Calls Try.prog 24 #[.agg #[.slice Ar row.length cr, .int .i64 from_, .int .i64 to_]] W (IntsPost W (row ++ [from_]))) := fun W hW => sstart_any row from_ to_ _ W (hr.below hW hW.size) (by omega) hf
  have CS2 : Hid (∀ W, Below w.heap.size w W → Calls Try.prog 25 #[.agg #[.slice Ar row.length cr, .int .i64 from_, .int .i64 to_]] W (IntsPost W (row ++ [from_]))) := fun W hW => rstart_any row from_ to_ _ W (hr.below hW hW.size) (by omega) hf
  have CE1 : Hid (∀ W, Below w.heap.size w W → Calls Try.prog 26 #[.agg #[.slice Ar row.length cr, .int .i64 from_, .int .i64 to_]] W (IntsPost W (row ++ [to_]))) := fun W hW => send_any row to_ from_ _ W (hr.below hW hW.size) (by omega) ht
  have CE2 : Hid (∀ W, Below w.heap.size w W → Calls Try.prog 27 #[.agg #[.slice Ar row.length cr, .int .i64 from_, .int .i64 to_]] W (IntsPost W (row ++ [to_]))) := fun W hW => rend_any row to_ from_ _ W (hr.below hW hW.size) (by omega) ht
  have CM : Hid (∀ (m : List Int) (W : World) (S1 S2 : Nat → Prop) (v1 v2 : Value), IntsR W S1 m v1 → IntsR W S2 m v2 → Calls Try.prog 23 #[v1, v2] W fun e w' => e = .returned (.bool true) ∧ ∃ n, w' = W.drewN n) := by
    intro m W S1 S2 v1 v2 h1 h2
    have h := same_q _ _ W v1 v2 S1 S2 h1 h2
    rw [decide_eq_true ((cmpS_zero _ _).2 rfl)] at h
    exact h
  generalize row ++ [from_] = r1 at *
  generalize row ++ [to_] = r2 at *
  generalize conS row from_ to_ pos = b at *
  clear hr hp hf ht h1 h2
  cases b
  all_goals
    go_enter Try.func4, Try.ntmps4
    go_wp2_with fail
    refine (awake11_any _).mono ?_
    rintro e w1 ⟨rfl, hb1⟩
    obtain ⟨⟨m0, m1, m2⟩, hbw⟩ := KB.out w1 hb1
    have HBW := hid hbw
    have KEEP : Hid (∀ W, Below w1.heap.size w1 W → (W.cell? ⟨w.heap.size, 0, none⟩ = some (.slice Ar row.length cr) ∧ W.cell? ⟨w.heap.size, 1, none⟩ = some (.int .i64 from_) ∧ W.cell? ⟨w.heap.size, 2, none⟩ = some (.int .i64 to_)) ∧ Below w.heap.size w W) := fun W h => KB.out W (hb1.trans (h.mono hb1.size))
    clear hb1 hbw
    go_wp2_with fail
    go_region_held3 (fun w' => w'.cell? ⟨w.heap.size, 0, none⟩ = some (.slice Ar row.length cr) ∧ w'.cell? ⟨w.heap.size, 1, none⟩ = some (.int .i64 from_) ∧ w'.cell? ⟨w.heap.size, 2, none⟩ = some (.int .i64 to_)) (go_keep) (first
      | (go_at_call 21; refine (CC.out _ (bl_drew HBW.out)).mono ?_; rintro e w3 ⟨rfl, hb3⟩; have HB3 : Hid (Below w1.heap.size w1 w3) := below_of_drewS hb3; clear hb3; obtain ⟨⟨k0, k1, k2⟩, kb⟩ := KEEP.out _ HB3.out; have HK3 := hid kb; clear kb)
      | (go_at_call 22; refine (CR.out _ HK3.out).mono ?_; rintro e w4 ⟨rfl, hb4⟩; have HB4 := hid (bl_call HB3.out hb4); clear hb4; obtain ⟨⟨k0, k1, k2⟩, kb⟩ := KEEP.out _ HB4.out; have HK4 := hid kb; clear kb)
      | (go_at_call 24; refine (CS1.out _ HK4.out).mono ?_; rintro e w5 ⟨v5, rfl, hi5, hb5⟩; obtain ⟨A5, c5, rfl⟩ := hi5.form; have HI5 := hid hi5; have HB5 := hid (bl_call HB4.out hb5); clear hb5 hi5; obtain ⟨⟨k0, k1, k2⟩, kb⟩ := KEEP.out _ HB5.out; have HK5 := hid kb; clear kb)
      | (go_at_call 25; refine (CS2.out _ HK5.out).mono ?_; rintro e w6 ⟨v6, rfl, hi6, hb6⟩; obtain ⟨A6, c6, rfl⟩ := hi6.form; have HI6 := hid hi6; have HI56 := hid (HI5.out.below hb6 hb6.size); have HB6 := hid (bl_call HB5.out hb6); clear hb6 hi6; obtain ⟨⟨k0, k1, k2⟩, kb⟩ := KEEP.out _ HB6.out; have HK6 := hid kb; clear kb)
      | (go_at_call 23; refine (CM.out _ _ _ _ _ _ HI56.out HI6.out).mono ?_; clear HI56; rintro e w7 ⟨rfl, n7, rfl⟩; have HB7 := hid (bl_dn (n := n7) HB6.out); obtain ⟨⟨k0, k1, k2⟩, kb⟩ := KEEP.out _ HB7.out; have HK7 := hid kb; clear kb)
      | (go_at_call 26; refine (CE1.out _ HK7.out).mono ?_; rintro e w8 ⟨v8, rfl, hi8, hb8⟩; obtain ⟨A8, c8, rfl⟩ := hi8.form; have HI8 := hid hi8; have HB8 := hid (bl_call HB7.out hb8); clear hb8 hi8; obtain ⟨⟨k0, k1, k2⟩, kb⟩ := KEEP.out _ HB8.out; have HK8 := hid kb; clear kb)
      | (go_at_call 27; refine (CE2.out _ HK8.out).mono ?_; rintro e w9 ⟨v9, rfl, hi9, hb9⟩; obtain ⟨A9, c9, rfl⟩ := hi9.form; have HI9 := hid hi9; have HI89 := hid (HI8.out.below hb9 hb9.size); have HB9 := hid (bl_call HB8.out hb9); clear hb9 hi9; obtain ⟨⟨k0, k1, k2⟩, kb⟩ := KEEP.out _ HB9.out; have HK9 := hid kb; clear kb)
      | (go_at_call 23; refine (CM.out _ _ _ _ _ _ HI89.out HI9.out).mono ?_; rintro e w10 ⟨rfl, n10, rfl⟩; have HB10 := hid (bl_dn (n := n10) HB9.out); obtain ⟨⟨k0, k1, k2⟩, kb⟩ := KEEP.out _ HB10.out; have HK10 := hid kb; clear kb))
    go_wp2_with fail
    go_ret
    exact ⟨rfl, HK10.out⟩
end Go.Proofs.Ytognlokeadlpbaa
