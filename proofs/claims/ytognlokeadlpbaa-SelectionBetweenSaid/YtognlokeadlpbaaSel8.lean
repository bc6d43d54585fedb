/- selection.Of, ref11.Of. -/
import Derived.Test.YtognlokeadlpbaaSel7
set_option linter.unusedVariables false
set_option linter.unusedSimpArgs false
set_option maxRecDepth 100000
namespace Go.Proofs.Ytognlokeadlpbaa
open Go.RowKit

def ofS (t : Tree) (a b : List Int) : (List Int × Int × Int) × Int := if b.length = 0 then betV (validS t) (posIn t a) (posIn t a) (btS a a) else betV (validS t) (posIn t a) (posIn t b) (btS a b)

set_option maxHeartbeats 2000000 in
theorem selOf_any (t : Tree) (a b : List Int) (A Aa Ab : Option Addr) (cap ca cb : Nat) (w : World) (hv : SliceR treeE w (Lt w.heap.size) t.kids (.slice A t.kids.length cap)) (htx : t.text.size ≤ maxLen) (ha : IntsR w (Lt w.heap.size) a (.slice Aa a.length ca)) (hb : IntsR w (Lt w.heap.size) b (.slice Ab b.length cb)) :
    Calls Try.prog 18 #[.agg #[.int .i64 t.kind, .string t.text, .int .i64 t.cols, .slice A t.kids.length cap], .agg #[.slice Aa a.length ca, .slice Ab b.length cb]] w (BetV w (ofS t a b)) := by
  have C1 : Hid (b.length = 0 → ∀ W, Below w.heap.size w W → Calls Try.prog 16 #[.agg #[.int .i64 t.kind, .string t.text, .int .i64 t.cols, .slice A t.kids.length cap], .slice Aa a.length ca, .slice Aa a.length ca] W (BetV W (ofS t a b))) := fun h0 W hW => by
    unfold ofS; rw [if_pos h0]
    exact (selBetween_any t a a A cap _ _ W (hv.below hW hW.size) htx (ha.below hW hW.size) (ha.below hW hW.size)).mono fun e w' h => BetRes.v h
  have C2 : Hid (¬ b.length = 0 → ∀ W, Below w.heap.size w W → Calls Try.prog 16 #[.agg #[.int .i64 t.kind, .string t.text, .int .i64 t.cols, .slice A t.kids.length cap], .slice Aa a.length ca, .slice Ab b.length cb] W (BetV W (ofS t a b))) := fun h0 W hW => by
    unfold ofS; rw [if_neg h0]
    exact (selBetween_any t a b A cap _ _ W (hv.below hW hW.size) htx (ha.below hW hW.size) (hb.below hW hW.size)).mono fun e w' h => BetRes.v h
  have hlb : b.length ≤ maxLen := by obtain ⟨_, _, _, _, h1, h, _⟩ := hb; exact Nat.le_trans h1 h
  generalize ofS t a b = r at *
  obtain ⟨⟨m, x, y⟩, er⟩ := r
  obtain ⟨tk, tx, tc, ts⟩ := t
  simp only [Tree.kind, Tree.text, Tree.cols, Tree.kids] at *
  clear hv htx ha hb
  generalize hW0 : ((w.alloc (Obj.cells #[.int .i64 tk, .string tx, .int .i64 tc, .slice A ts.length cap] 24)).alloc (.cells #[.slice Aa a.length ca, .slice Ab b.length cb] 35)).alloc (.cells #[.slice none 0 0, .int .i64 0, .int .i64 0] 29) = W0
  have KB : Hid (∀ W, Below W0.heap.size W0 W → (W.cell? ⟨w.heap.size, 0, none⟩ = some (.int .i64 tk) ∧ W.cell? ⟨w.heap.size, 1, none⟩ = some (.string tx) ∧ W.cell? ⟨w.heap.size, 2, none⟩ = some (.int .i64 tc) ∧ W.cell? ⟨w.heap.size, 3, none⟩ = some (.slice A ts.length cap)) ∧
      (W.cell? ⟨w.heap.size + 1, 0, none⟩ = some (.slice Aa a.length ca) ∧ W.cell? ⟨w.heap.size + 1, 1, none⟩ = some (.slice Ab b.length cb)) ∧
      (W.cell? ⟨w.heap.size + 2, 0, none⟩ = some (.slice none 0 0) ∧ W.cell? ⟨w.heap.size + 2, 1, none⟩ = some (.int .i64 0) ∧ W.cell? ⟨w.heap.size + 2, 2, none⟩ = some (.int .i64 0)) ∧
      (W.frozen? ⟨w.heap.size + 2, 0, none⟩ = false ∧ W.frozen? ⟨w.heap.size + 2, 1, none⟩ = false ∧ W.frozen? ⟨w.heap.size + 2, 2, none⟩ = false) ∧ Below w.heap.size w W ∧ w.heap.size + 2 < W.heap.size) := by
    intro W hW
    have hz : W0.heap.size = w.heap.size + 1 + 1 + 1 := by rw [← hW0]; simp
    have hc := (bcell hW).1
    have hf := (bcell hW).2
    have hbb : Below w.heap.size w W0 := by rw [← hW0]; exact bl_alloc (bl_alloc (below_allocR' _ _) _) _
    refine ⟨⟨(hc _ _ (by omega)).trans ?_, (hc _ _ (by omega)).trans ?_, (hc _ _ (by omega)).trans ?_, (hc _ _ (by omega)).trans ?_⟩, ⟨(hc _ _ (by omega)).trans ?_, (hc _ _ (by omega)).trans ?_⟩, ⟨(hc _ _ (by omega)).trans ?_, (hc _ _ (by omega)).trans ?_, (hc _ _ (by omega)).trans ?_⟩, ⟨(hf _ _ (by omega)).trans ?_, (hf _ _ (by omega)).trans ?_, (hf _ _ (by omega)).trans ?_⟩, hbb.trans (hW.mono hbb.size), by have := hW.size; omega⟩
    all_goals (rw [← hW0]; first | exact na_c _ _ _ _ _ (by simp) | exact na_f _ _ _ _ _ (by simp) | exact na2_c _ _ _ _ _ _ (by simp) | exact old_c _ _ _ _ _ (by simp; omega) (na2_c _ _ _ _ _ _ rfl))
  obtain ⟨⟨m0, m1, m2, m3⟩, ⟨u0, u1⟩, ⟨c0, c1, c2⟩, ⟨f0, f1, f2⟩, hbw0, hz0⟩ := KB.out W0 (Below.refl _ _)
  have HBW0 := hid hbw0
  clear hbw0
  unfold maxLen at hlb
  by_cases h0 : b.length = 0
  · have e0 : (((b.length : Int)) == 0) = true := by first | (rw [h0]; rfl) | (rw [beq_eq_false_iff_ne]; omega)
    have C := hid (C1.out h0 W0 HBW0.out)
    clear C1 C2 h0
    go_enter Try.func18, Try.ntmps18
    go_wp2_with fail
    refine C.out.mono ?_
    intro e w1 h
    obtain ⟨v1, rfl, hi1, hb1⟩ : ∃ v, e = .returned (.tuple #[.agg #[v, .int .i64 x, .int .i64 y], .int .i64 er]) ∧ IntsR w1 (fun k => W0.heap.size ≤ k ∧ k < w1.heap.size) m v ∧ Below W0.heap.size W0 w1 := h
    clear m0 m1 m2 m3 u0 u1 c0 c1 c2 f0 f1 f2 hz0
    obtain ⟨Am, cm, rfl⟩ := hi1.form
    obtain ⟨_, _, hr1, ⟨f0, f1, f2⟩, hbw1, hz1⟩ := KB.out w1 hb1
    have HI1 := hid hi1
    have HBW1 := hid hbw1
    have HZ0 : Hid (w.heap.size + 2 < W0.heap.size) := (KB.out W0 (Below.refl _ _)).2.2.2.2.2
    obtain ⟨c0, c1, c2⟩ := hr1
    have HR1 := hid (And.intro c0 (And.intro c1 c2))
    clear hb1 hbw1 hi1
    go_wp2_with fail
    generalize hW : ((w1.setCell _ (.slice Am m.length cm)).setCell _ (.int .i64 x)).setCell _ (.int .i64 y) = W
    obtain ⟨⟨r0, r1, r2⟩, rz, rb, ro⟩ := three HR1.out.1 HR1.out.2.1 HR1.out.2.2 _ _ _ hW.symm
    have HB' := hid (rb w.heap.size w (by omega) HBW1.out)
    have HI' : Hid (IntsR W (fun k => w.heap.size ≤ k ∧ k < W.heap.size) m (.slice Am m.length cm)) := by
      refine HI1.out.keep (fun p hp => ro p ?_) (fun j hj => ?_)
      · have := hp.1; have := HZ0.out; omega
      · have := hj.1; have := hj.2; have := HZ0.out; exact ⟨by omega, by omega⟩
    clear hW ro rb
    refine bodyPost_ret (v := .tuple #[.agg #[.slice Am m.length cm, .int .i64 x, .int .i64 y], .int .i64 er]) (by simp [results, Try.results18, go_sem, r0, r1, r2]) rfl ?_
    exact ⟨_, rfl, HI'.out, HB'.out⟩
  · have e0 : (((b.length : Int)) == 0) = false := by first | (rw [h0]; rfl) | (rw [beq_eq_false_iff_ne]; omega)
    have C := hid (C2.out h0 W0 HBW0.out)
    clear C1 C2 h0
    go_enter Try.func18, Try.ntmps18
    go_wp2_with fail
    refine C.out.mono ?_
    intro e w1 h
    obtain ⟨v1, rfl, hi1, hb1⟩ : ∃ v, e = .returned (.tuple #[.agg #[v, .int .i64 x, .int .i64 y], .int .i64 er]) ∧ IntsR w1 (fun k => W0.heap.size ≤ k ∧ k < w1.heap.size) m v ∧ Below W0.heap.size W0 w1 := h
    clear m0 m1 m2 m3 u0 u1 c0 c1 c2 f0 f1 f2 hz0
    obtain ⟨Am, cm, rfl⟩ := hi1.form
    obtain ⟨_, _, hr1, ⟨f0, f1, f2⟩, hbw1, hz1⟩ := KB.out w1 hb1
    have HI1 := hid hi1
    have HBW1 := hid hbw1
    have HZ0 : Hid (w.heap.size + 2 < W0.heap.size) := (KB.out W0 (Below.refl _ _)).2.2.2.2.2
    obtain ⟨c0, c1, c2⟩ := hr1
    have HR1 := hid (And.intro c0 (And.intro c1 c2))
    clear hb1 hbw1 hi1
    go_wp2_with fail
    generalize hW : ((w1.setCell _ (.slice Am m.length cm)).setCell _ (.int .i64 x)).setCell _ (.int .i64 y) = W
    obtain ⟨⟨r0, r1, r2⟩, rz, rb, ro⟩ := three HR1.out.1 HR1.out.2.1 HR1.out.2.2 _ _ _ hW.symm
    have HB' := hid (rb w.heap.size w (by omega) HBW1.out)
    have HI' : Hid (IntsR W (fun k => w.heap.size ≤ k ∧ k < W.heap.size) m (.slice Am m.length cm)) := by
      refine HI1.out.keep (fun p hp => ro p ?_) (fun j hj => ?_)
      · have := hp.1; have := HZ0.out; omega
      · have := hj.1; have := hj.2; have := HZ0.out; exact ⟨by omega, by omega⟩
    clear hW ro rb
    refine bodyPost_ret (v := .tuple #[.agg #[.slice Am m.length cm, .int .i64 x, .int .i64 y], .int .i64 er]) (by simp [results, Try.results18, go_sem, r0, r1, r2]) rfl ?_
    exact ⟨_, rfl, HI'.out, HB'.out⟩

set_option maxHeartbeats 2000000 in
theorem rOf_any (t : Tree) (a b : List Int) (A Aa Ab : Option Addr) (cap ca cb : Nat) (w : World) (hv : SliceR treeE w (Lt w.heap.size) t.kids (.slice A t.kids.length cap)) (htx : t.text.size ≤ maxLen) (ha : IntsR w (Lt w.heap.size) a (.slice Aa a.length ca)) (hb : IntsR w (Lt w.heap.size) b (.slice Ab b.length cb)) (hct : countS t ≤ 900000) :
    Calls Try.prog 19 #[.agg #[.int .i64 t.kind, .string t.text, .int .i64 t.cols, .slice A t.kids.length cap], .agg #[.slice Aa a.length ca, .slice Ab b.length cb]] w (BetV w (ofS t a b)) := by
  have C1 : Hid (b.length = 0 → ∀ W, Below w.heap.size w W → Calls Try.prog 17 #[.agg #[.int .i64 t.kind, .string t.text, .int .i64 t.cols, .slice A t.kids.length cap], .slice Aa a.length ca, .slice Aa a.length ca] W (BetV W (ofS t a b))) := fun h0 W hW => by
    unfold ofS; rw [if_pos h0]
    exact (rBetween_any t a a A cap _ _ W (hv.below hW hW.size) htx hct (ha.below hW hW.size) (ha.below hW hW.size)).mono fun e w' h => BetRes.v h
  have C2 : Hid (¬ b.length = 0 → ∀ W, Below w.heap.size w W → Calls Try.prog 17 #[.agg #[.int .i64 t.kind, .string t.text, .int .i64 t.cols, .slice A t.kids.length cap], .slice Aa a.length ca, .slice Ab b.length cb] W (BetV W (ofS t a b))) := fun h0 W hW => by
    unfold ofS; rw [if_neg h0]
    exact (rBetween_any t a b A cap _ _ W (hv.below hW hW.size) htx hct (ha.below hW hW.size) (hb.below hW hW.size)).mono fun e w' h => BetRes.v h
  have hlb : b.length ≤ maxLen := by obtain ⟨_, _, _, _, h1, h, _⟩ := hb; exact Nat.le_trans h1 h
  generalize ofS t a b = r at *
  obtain ⟨⟨m, x, y⟩, er⟩ := r
  obtain ⟨tk, tx, tc, ts⟩ := t
  simp only [Tree.kind, Tree.text, Tree.cols, Tree.kids] at *
  clear hv htx ha hb hct
  generalize hW0 : ((w.alloc (Obj.cells #[.int .i64 tk, .string tx, .int .i64 tc, .slice A ts.length cap] 24)).alloc (.cells #[.slice Aa a.length ca, .slice Ab b.length cb] 35)).alloc (.cells #[.slice none 0 0, .int .i64 0, .int .i64 0] 29) = W0
  have KB : Hid (∀ W, Below W0.heap.size W0 W → (W.cell? ⟨w.heap.size, 0, none⟩ = some (.int .i64 tk) ∧ W.cell? ⟨w.heap.size, 1, none⟩ = some (.string tx) ∧ W.cell? ⟨w.heap.size, 2, none⟩ = some (.int .i64 tc) ∧ W.cell? ⟨w.heap.size, 3, none⟩ = some (.slice A ts.length cap)) ∧
      (W.cell? ⟨w.heap.size + 1, 0, none⟩ = some (.slice Aa a.length ca) ∧ W.cell? ⟨w.heap.size + 1, 1, none⟩ = some (.slice Ab b.length cb)) ∧
      (W.cell? ⟨w.heap.size + 2, 0, none⟩ = some (.slice none 0 0) ∧ W.cell? ⟨w.heap.size + 2, 1, none⟩ = some (.int .i64 0) ∧ W.cell? ⟨w.heap.size + 2, 2, none⟩ = some (.int .i64 0)) ∧
      (W.frozen? ⟨w.heap.size + 2, 0, none⟩ = false ∧ W.frozen? ⟨w.heap.size + 2, 1, none⟩ = false ∧ W.frozen? ⟨w.heap.size + 2, 2, none⟩ = false) ∧ Below w.heap.size w W ∧ w.heap.size + 2 < W.heap.size) := by
    intro W hW
    have hz : W0.heap.size = w.heap.size + 1 + 1 + 1 := by rw [← hW0]; simp
    have hc := (bcell hW).1
    have hf := (bcell hW).2
    have hbb : Below w.heap.size w W0 := by rw [← hW0]; exact bl_alloc (bl_alloc (below_allocR' _ _) _) _
    refine ⟨⟨(hc _ _ (by omega)).trans ?_, (hc _ _ (by omega)).trans ?_, (hc _ _ (by omega)).trans ?_, (hc _ _ (by omega)).trans ?_⟩, ⟨(hc _ _ (by omega)).trans ?_, (hc _ _ (by omega)).trans ?_⟩, ⟨(hc _ _ (by omega)).trans ?_, (hc _ _ (by omega)).trans ?_, (hc _ _ (by omega)).trans ?_⟩, ⟨(hf _ _ (by omega)).trans ?_, (hf _ _ (by omega)).trans ?_, (hf _ _ (by omega)).trans ?_⟩, hbb.trans (hW.mono hbb.size), by have := hW.size; omega⟩
    all_goals (rw [← hW0]; first | exact na_c _ _ _ _ _ (by simp) | exact na_f _ _ _ _ _ (by simp) | exact na2_c _ _ _ _ _ _ (by simp) | exact old_c _ _ _ _ _ (by simp; omega) (na2_c _ _ _ _ _ _ rfl))
  obtain ⟨⟨m0, m1, m2, m3⟩, ⟨u0, u1⟩, ⟨c0, c1, c2⟩, ⟨f0, f1, f2⟩, hbw0, hz0⟩ := KB.out W0 (Below.refl _ _)
  have HBW0 := hid hbw0
  clear hbw0
  unfold maxLen at hlb
  by_cases h0 : b.length = 0
  · have e0 : (((b.length : Int)) == 0) = true := by first | (rw [h0]; rfl) | (rw [beq_eq_false_iff_ne]; omega)
    have C := hid (C1.out h0 W0 HBW0.out)
    clear C1 C2 h0
    go_enter Try.func19, Try.ntmps19
    go_wp2_with fail
    refine C.out.mono ?_
    intro e w1 h
    obtain ⟨v1, rfl, hi1, hb1⟩ : ∃ v, e = .returned (.tuple #[.agg #[v, .int .i64 x, .int .i64 y], .int .i64 er]) ∧ IntsR w1 (fun k => W0.heap.size ≤ k ∧ k < w1.heap.size) m v ∧ Below W0.heap.size W0 w1 := h
    clear m0 m1 m2 m3 u0 u1 c0 c1 c2 f0 f1 f2 hz0
    obtain ⟨Am, cm, rfl⟩ := hi1.form
    obtain ⟨_, _, hr1, ⟨f0, f1, f2⟩, hbw1, hz1⟩ := KB.out w1 hb1
    have HI1 := hid hi1
    have HBW1 := hid hbw1
    have HZ0 : Hid (w.heap.size + 2 < W0.heap.size) := (KB.out W0 (Below.refl _ _)).2.2.2.2.2
    obtain ⟨c0, c1, c2⟩ := hr1
    have HR1 := hid (And.intro c0 (And.intro c1 c2))
    clear hb1 hbw1 hi1
    go_wp2_with fail
    generalize hW : ((w1.setCell _ (.slice Am m.length cm)).setCell _ (.int .i64 x)).setCell _ (.int .i64 y) = W
    obtain ⟨⟨r0, r1, r2⟩, rz, rb, ro⟩ := three HR1.out.1 HR1.out.2.1 HR1.out.2.2 _ _ _ hW.symm
    have HB' := hid (rb w.heap.size w (by omega) HBW1.out)
    have HI' : Hid (IntsR W (fun k => w.heap.size ≤ k ∧ k < W.heap.size) m (.slice Am m.length cm)) := by
      refine HI1.out.keep (fun p hp => ro p ?_) (fun j hj => ?_)
      · have := hp.1; have := HZ0.out; omega
      · have := hj.1; have := hj.2; have := HZ0.out; exact ⟨by omega, by omega⟩
    clear hW ro rb
    refine bodyPost_ret (v := .tuple #[.agg #[.slice Am m.length cm, .int .i64 x, .int .i64 y], .int .i64 er]) (by simp [results, Try.results19, go_sem, r0, r1, r2]) rfl ?_
    exact ⟨_, rfl, HI'.out, HB'.out⟩
  · have e0 : (((b.length : Int)) == 0) = false := by first | (rw [h0]; rfl) | (rw [beq_eq_false_iff_ne]; omega)
    have C := hid (C2.out h0 W0 HBW0.out)
    clear C1 C2 h0
    go_enter Try.func19, Try.ntmps19
    go_wp2_with fail
    refine C.out.mono ?_
    intro e w1 h
    obtain ⟨v1, rfl, hi1, hb1⟩ : ∃ v, e = .returned (.tuple #[.agg #[v, .int .i64 x, .int .i64 y], .int .i64 er]) ∧ IntsR w1 (fun k => W0.heap.size ≤ k ∧ k < w1.heap.size) m v ∧ Below W0.heap.size W0 w1 := h
    clear m0 m1 m2 m3 u0 u1 c0 c1 c2 f0 f1 f2 hz0
    obtain ⟨Am, cm, rfl⟩ := hi1.form
    obtain ⟨_, _, hr1, ⟨f0, f1, f2⟩, hbw1, hz1⟩ := KB.out w1 hb1
    have HI1 := hid hi1
    have HBW1 := hid hbw1
    have HZ0 : Hid (w.heap.size + 2 < W0.heap.size) := (KB.out W0 (Below.refl _ _)).2.2.2.2.2
    obtain ⟨c0, c1, c2⟩ := hr1
    have HR1 := hid (And.intro c0 (And.intro c1 c2))
    clear hb1 hbw1 hi1
    go_wp2_with fail
    generalize hW : ((w1.setCell _ (.slice Am m.length cm)).setCell _ (.int .i64 x)).setCell _ (.int .i64 y) = W
    obtain ⟨⟨r0, r1, r2⟩, rz, rb, ro⟩ := three HR1.out.1 HR1.out.2.1 HR1.out.2.2 _ _ _ hW.symm
    have HB' := hid (rb w.heap.size w (by omega) HBW1.out)
    have HI' : Hid (IntsR W (fun k => w.heap.size ≤ k ∧ k < W.heap.size) m (.slice Am m.length cm)) := by
      refine HI1.out.keep (fun p hp => ro p ?_) (fun j hj => ?_)
      · have := hp.1; have := HZ0.out; omega
      · have := hj.1; have := hj.2; have := HZ0.out; exact ⟨by omega, by omega⟩
    clear hW ro rb
    refine bodyPost_ret (v := .tuple #[.agg #[.slice Am m.length cm, .int .i64 x, .int .i64 y], .int .i64 er]) (by simp [results, Try.results19, go_sem, r0, r1, r2]) rfl ?_
    exact ⟨_, rfl, HI'.out, HB'.out⟩
end Go.Proofs.Ytognlokeadlpbaa
