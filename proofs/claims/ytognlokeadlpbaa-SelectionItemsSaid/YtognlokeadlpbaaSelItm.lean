/- vinculumlaw11.SelectionItems: the walk. -/
import Derived.Test.YtognlokeadlpbaaAwk11
import Derived.Test.YtognlokeadlpbaaItr
import Derived.Test.YtognlokeadlpbaaSel6
set_option linter.unusedVariables false
set_option linter.unusedSimpArgs false
set_option maxRecDepth 100000
namespace Go.Proofs.Ytognlokeadlpbaa
open Go.RowKit

theorem same_self (L : List Tree) (w : World) (a b : Value) (ha : SliceR treeE w (Lt w.heap.size) L a) (hb : SliceR treeE w (Lt w.heap.size) L b) :
    Calls Try.prog 30 #[a, b] w fun e w' => e = .returned (.bool true) ∧ Below w.heap.size w w' := by
  have h := same_any L L w a b ha hb
  have h2 : (L.length == L.length && eqsS L L) = true := by
    have := (eqsS_iff L L).2 rfl
    simp [this.2]
  rw [h2] at h
  exact h

/-- The two boxes of a call: a tree's and a part's. -/
def Boxes (w W : World) (k c : Int) (s : ByteArray) (v u : Value) (x y : Int) : Prop :=
  (W.cell? ⟨w.heap.size, 0, none⟩ = some (.int .i64 k) ∧ W.cell? ⟨w.heap.size, 1, none⟩ = some (.string s) ∧ W.cell? ⟨w.heap.size, 2, none⟩ = some (.int .i64 c) ∧ W.cell? ⟨w.heap.size, 3, none⟩ = some v) ∧
  (W.cell? ⟨w.heap.size + 1, 0, none⟩ = some u ∧ W.cell? ⟨w.heap.size + 1, 1, none⟩ = some (.int .i64 x) ∧ W.cell? ⟨w.heap.size + 1, 2, none⟩ = some (.int .i64 y)) ∧ Below w.heap.size w W ∧ w.heap.size + 1 < W.heap.size
theorem boxes (w : World) (k c : Int) (s : ByteArray) (v u : Value) (x y : Int) (W0 : World) (hW0 : (w.alloc (Obj.cells #[.int .i64 k, .string s, .int .i64 c, v] 24)).alloc (.cells #[u, .int .i64 x, .int .i64 y] 29) = W0) :
    ∀ W, Below W0.heap.size W0 W → Boxes w W k c s v u x y := by
  intro W hW
  have hz : W0.heap.size = w.heap.size + 1 + 1 := by rw [← hW0]; simp
  have hc := (bcell hW).1
  have hbb : Below w.heap.size w W0 := by rw [← hW0]; exact bl_alloc (below_allocR' _ _) _
  refine ⟨⟨(hc _ _ (by omega)).trans ?_, (hc _ _ (by omega)).trans ?_, (hc _ _ (by omega)).trans ?_, (hc _ _ (by omega)).trans ?_⟩, ⟨(hc _ _ (by omega)).trans ?_, (hc _ _ (by omega)).trans ?_, (hc _ _ (by omega)).trans ?_⟩, hbb.trans (hW.mono hbb.size), by have := hW.size; omega⟩
  all_goals (rw [← hW0]; first | exact na2_c _ _ _ _ _ _ rfl | exact na_c _ _ _ _ _ (by simp))

set_option maxHeartbeats 4000000 in
theorem selItm_walk (t : Tree) (p : List Int) (x y : Int) (A Ap : Option Addr) (cap cp : Nat) (w : World) (hv : SliceR treeE w (Lt w.heap.size) t.kids (.slice A t.kids.length cap)) (hok : NodeOk t) (hp : IntsR w (Lt w.heap.size) p (.slice Ap p.length cp)) (hx : In64 x) (hy : In64 y) :
    Calls Try.prog 5 #[.agg #[.int .i64 t.kind, .string t.text, .int .i64 t.cols, .slice A t.kids.length cap], .agg #[.slice Ap p.length cp, .int .i64 x, .int .i64 y]] w fun e w' => e = .returned (.bool true) ∧ Below w.heap.size w w' := by
  have hlp := hp.lens
  have CF : Hid (∀ W, Below w.heap.size w W → Calls Try.prog 15 #[.agg #[.int .i64 t.kind, .string t.text, .int .i64 t.cols, .slice A t.kids.length cap], .slice Ap p.length cp, .slice none 0 0] W fun e w' => e = .returned (.bool (few11S t p [])) ∧ Below W.heap.size W w') := fun W hW => few11_any t p [] A Ap none cap cp 0 W (hv.below hW hW.size) hlp (Nat.zero_le _)
  generalize hW0 : (w.alloc (Obj.cells #[.int .i64 t.kind, .string t.text, .int .i64 t.cols, .slice A t.kids.length cap] 24)).alloc (.cells #[.slice Ap p.length cp, .int .i64 x, .int .i64 y] 29) = W0
  have KB := hid (boxes w t.kind t.cols t.text (.slice A t.kids.length cap) (.slice Ap p.length cp) x y W0 hW0)
  cases hfew : few11S t p []
  · rw [hfew] at CF
    obtain ⟨tk, tx, tc, ts⟩ := t
    simp only [Tree.kind, Tree.text, Tree.cols, Tree.kids] at *
    clear hv hok hp hfew hlp
    go_enter Try.func5, Try.ntmps5
    go_wp2_with fail
    refine (awake11_any _).mono ?_
    rintro e w1 ⟨rfl, hb1⟩
    obtain ⟨⟨m0, m1, m2, m3⟩, ⟨c0, c1, c2⟩, hbw, hz1⟩ := KB.out w1 hb1
    have HBW := hid hbw
    clear hb1 hbw
    go_wp2_with fail
    refine (CF.out _ HBW.out).mono ?_
    rintro e w3 ⟨rfl, hb3⟩
    have HB3 : Hid (Below w1.heap.size w1 w3) := hid hb3
    clear hb3
    go_wp2_with fail
    refine (awake11_any _).mono ?_
    rintro e w4 ⟨rfl, hb4⟩
    have HB4 := hid (bl_call (bl_call HBW.out HB3.out) hb4)
    clear hb4
    go_wp2_with fail
    go_ret
    exact ⟨rfl, HB4.out⟩
  have hct : countS t ≤ 900000 := by
    unfold few11S at hfew
    simp only [Bool.and_eq_true] at hfew
    have := few_count hfew.1.1
    omega
  rw [hfew] at CF
  have C1 : Hid (∀ W, Below w.heap.size w W → Calls Try.prog 28 #[.agg #[.int .i64 t.kind, .string t.text, .int .i64 t.cols, .slice A t.kids.length cap], .agg #[.slice Ap p.length cp, .int .i64 x, .int .i64 y]] W (ItemsRes W (itemsR t p x y))) := fun W hW => items_any t p x y A Ap cap cp W (hv.below hW hW.size) hok hct (hp.below hW hW.size) hx hy
  have C2 : Hid (∀ W, Below w.heap.size w W → Calls Try.prog 29 #[.agg #[.int .i64 t.kind, .string t.text, .int .i64 t.cols, .slice A t.kids.length cap], .agg #[.slice Ap p.length cp, .int .i64 x, .int .i64 y]] W (ItemsRes W (itemsR t p x y))) := fun W hW => rItems_any t p x y A Ap cap cp W (hv.below hW hW.size) hok hct (hp.below hW hW.size) hx hy
  generalize itemsR t p x y = r at *
  obtain ⟨L, er⟩ := r
  have e1 : (er == er) = true := by simp
  obtain ⟨tk, tx, tc, ts⟩ := t
  simp only [Tree.kind, Tree.text, Tree.cols, Tree.kids] at *
  clear hv hok hp hfew hlp hct
  go_enter Try.func5, Try.ntmps5
  go_wp2_with fail
  refine (awake11_any _).mono ?_
  rintro e w1 ⟨rfl, hb1⟩
  obtain ⟨⟨m0, m1, m2, m3⟩, ⟨c0, c1, c2⟩, hbw, hz1⟩ := KB.out w1 hb1
  have HBW := hid hbw
  have HT1 := hid hb1
  clear hb1 hbw
  go_wp2_with fail
  refine (CF.out _ HBW.out).mono ?_
  rintro e w3 ⟨rfl, hb3⟩
  have HT3 := hid (HT1.out.trans (hb3.mono HT1.out.size))
  clear hb3 m0 m1 m2 m3 c0 c1 c2 hz1
  obtain ⟨⟨m0, m1, m2, m3⟩, ⟨c0, c1, c2⟩, hbw, hz1⟩ := KB.out w3 HT3.out
  have HK3 := hid hbw
  clear hbw
  go_wp2_with fail
  refine (C1.out _ HK3.out).mono ?_
  intro e w4 h4
  obtain ⟨v4, rfl, hr4, hb4⟩ : ∃ v, e = .returned (.tuple #[v, .int .i64 er]) ∧ SliceR treeE w4 (Lt w4.heap.size) L v ∧ Below w3.heap.size w3 w4 := h4
  have HT4 := hid (HT3.out.trans (hb4.mono HT3.out.size))
  have HR4 := hid hr4
  clear hb4 hr4 m0 m1 m2 m3 c0 c1 c2 hz1
  obtain ⟨⟨m0, m1, m2, m3⟩, ⟨c0, c1, c2⟩, hbw, hz1⟩ := KB.out w4 HT4.out
  have HK4 := hid hbw
  clear hbw
  go_wp2_with fail
  refine (C2.out _ HK4.out).mono ?_
  intro e w5 h5
  obtain ⟨v5, rfl, hr5, hb5⟩ : ∃ v, e = .returned (.tuple #[v, .int .i64 er]) ∧ SliceR treeE w5 (Lt w5.heap.size) L v ∧ Below w4.heap.size w4 w5 := h5
  have HS := hid (same_self L w5 v4 v5 (HR4.out.below hb5 hb5.size) hr5)
  have HK5 := hid (bl_call HK4.out hb5)
  clear hb5 hr5 m0 m1 m2 m3 c0 c1 c2 hz1
  go_wp2_with fail
  refine HS.out.mono ?_
  rintro e w6 ⟨rfl, hb6⟩
  have HK6 := hid (bl_call HK5.out hb6)
  clear hb6
  go_wp2_with fail
  go_ret
  exact ⟨rfl, HK6.out⟩
end Go.Proofs.Ytognlokeadlpbaa
