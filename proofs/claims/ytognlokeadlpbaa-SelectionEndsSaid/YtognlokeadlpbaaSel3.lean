/- position.Valid, selection.Between. -/
import Derived.Test.YtognlokeadlpbaaSel2
import Derived.Test.YtognlokeadlpbaaIn
import Derived.Test.YtognlokeadlpbaaPosL
set_option linter.unusedVariables false
set_option linter.unusedSimpArgs false
set_option maxRecDepth 100000
namespace Go.Proofs.Ytognlokeadlpbaa
open Go.RowKit

set_option maxHeartbeats 1000000 in
theorem posValid_any (t : Tree) (p : List Int) (A : Option Addr) (cap : Nat) (b : Value) (w : World) (hv : SliceR treeE w (Lt w.heap.size) t.kids (.slice A t.kids.length cap)) (htx : t.text.size ≤ maxLen) (hp : IntsR w (Lt w.heap.size) p b) :
    Calls Try.prog 36 #[.agg #[.int .i64 t.kind, .string t.text, .int .i64 t.cols, .slice A t.kids.length cap], b] w fun e w' => e = .returned (.bool (validS t && posIn t p)) ∧ Below w.heap.size w w' := by
  have hb0 : Below w.heap.size w (w.alloc (Obj.cells #[.int .i64 t.kind, .string t.text, .int .i64 t.cols, .slice A t.kids.length cap] 24)) := below_allocR' _ _
  have HB0 := hid hb0
  have C1 : Hid (∀ W, Below w.heap.size w W → Calls Try.prog 53 #[.agg #[.int .i64 t.kind, .string t.text, .int .i64 t.cols, .slice A t.kids.length cap]] W fun e w' => e = .returned (.bool (validS t)) ∧ Below W.heap.size W w') := fun W hW => nValid_any t A cap W (hv.below hW hW.size) htx
  have C2 : Hid (∀ W, Below w.heap.size w W → Calls Try.prog 65 #[.agg #[.int .i64 t.kind, .string t.text, .int .i64 t.cols, .slice A t.kids.length cap], b] W fun e w' => e = .returned (.bool (posIn t p)) ∧ Below W.heap.size W w') := fun W hW => in_any t p A cap b W (hv.below hW hW.size) htx (hp.below hW hW.size)
  have KB : Hid (∀ W, Below (w.alloc (Obj.cells #[.int .i64 t.kind, .string t.text, .int .i64 t.cols, .slice A t.kids.length cap] 24)).heap.size (w.alloc (Obj.cells #[.int .i64 t.kind, .string t.text, .int .i64 t.cols, .slice A t.kids.length cap] 24)) W → NBox W w.heap.size t.kind t.cols t.text (.slice A t.kids.length cap)) :=
    fun W hW => (NBox.new w t.kind t.cols t.text _).below hW (by simp)
  obtain ⟨A', cap', rfl⟩ := hp.form
  generalize posIn t p = b2 at *
  generalize validS t = b1 at *
  obtain ⟨tk, tx, tc, ts⟩ := t
  simp only [Tree.kind, Tree.text, Tree.cols, Tree.kids] at *
  clear hv htx hp hb0
  cases b1
  · go_enter Try.func36, Try.ntmps36
    go_wp2_with fail
    refine (C1.out _ HB0.out).mono ?_
    rintro e w1 ⟨rfl, hb1⟩
    have HB1 := hid (HB0.out.trans (hb1.mono HB0.out.size))
    clear hb1
    go_wp2_with fail
    go_ret
    exact ⟨rfl, HB1.out⟩
  · go_enter Try.func36, Try.ntmps36
    go_wp2_with fail
    refine (C1.out _ HB0.out).mono ?_
    rintro e w1 ⟨rfl, hb1⟩
    have HB1 := hid (HB0.out.trans (hb1.mono HB0.out.size))
    obtain ⟨p0, p1, p2, p3⟩ := KB.out w1 hb1
    clear hb1
    go_wp2_with fail
    refine (C2.out _ HB1.out).mono ?_
    rintro e w2 ⟨rfl, hb2⟩
    have HB2 := hid (HB1.out.trans (hb2.mono HB1.out.size))
    clear hb2 p0 p1 p2 p3
    go_wp2_with fail
    go_ret
    exact ⟨rfl, HB2.out⟩

def BetRes (w : World) (b1 b2 b3 : Bool) (r : List Int × Int × Int) (e : Ending) (w' : World) : Prop :=
  Below w.heap.size w w' ∧ ((b1 = false ∧ e = .returned (.tuple #[.agg #[.slice none 0 0, .int .i64 0, .int .i64 0], .int .i64 1])) ∨
    (b1 = true ∧ (b2 && b3) = false ∧ e = .returned (.tuple #[.agg #[.slice none 0 0, .int .i64 0, .int .i64 0], .int .i64 2])) ∨
    (b1 = true ∧ b2 = true ∧ b3 = true ∧ ∃ v, e = .returned (.tuple #[.agg #[v, .int .i64 r.2.1, .int .i64 r.2.2], .int .i64 0]) ∧ IntsR w' (fun k => w.heap.size ≤ k ∧ k < w'.heap.size) r.1 v))

theorem posIn_ok {t : Tree} {p : List Int} (hc : countS t ≤ 1000) (h : posIn t p = true) : 0 < p.length ∧ p.length ≤ 1000000 ∧ ∀ x ∈ p, 0 ≤ x ∧ x ≤ 1000000 := by
  obtain ⟨h1, h2⟩ := posIn_bd t p h
  have hd := depth_le_count t
  refine ⟨?_, by omega, fun x hx => ?_⟩
  · rcases p with _ | ⟨_, _⟩
    · simp [posIn] at h
    · simp
  · have := h2 x hx; omega

set_option maxHeartbeats 2000000 in
theorem selBetween_any (t : Tree) (a b : List Int) (A : Option Addr) (cap : Nat) (va vb : Value) (w : World) (hv : SliceR treeE w (Lt w.heap.size) t.kids (.slice A t.kids.length cap)) (htx : t.text.size ≤ maxLen) (ha : IntsR w (Lt w.heap.size) a va) (hb : IntsR w (Lt w.heap.size) b vb) :
    Calls Try.prog 16 #[.agg #[.int .i64 t.kind, .string t.text, .int .i64 t.cols, .slice A t.kids.length cap], va, vb] w (BetRes w (validS t) (posIn t a) (posIn t b) (btS a b)) := by
  obtain ⟨Aa, ca, rfl⟩ := ha.form
  obtain ⟨Ab, cb, rfl⟩ := hb.form
  have C1 : Hid (∀ W, Below w.heap.size w W → Calls Try.prog 53 #[.agg #[.int .i64 t.kind, .string t.text, .int .i64 t.cols, .slice A t.kids.length cap]] W fun e w' => e = .returned (.bool (validS t)) ∧ Below W.heap.size W w') := fun W hW => nValid_any t A cap W (hv.below hW hW.size) htx
  have C2 : Hid (∀ W, Below w.heap.size w W → validS t = true → Calls Try.prog 36 #[.agg #[.int .i64 t.kind, .string t.text, .int .i64 t.cols, .slice A t.kids.length cap], .slice Aa a.length ca] W fun e w' => e = .returned (.bool (posIn t a)) ∧ Below W.heap.size W w') := fun W hW h => by
    have := posValid_any t a A cap _ W (hv.below hW hW.size) htx (ha.below hW hW.size)
    rwa [h, Bool.true_and] at this
  have C3 : Hid (∀ W, Below w.heap.size w W → validS t = true → Calls Try.prog 36 #[.agg #[.int .i64 t.kind, .string t.text, .int .i64 t.cols, .slice A t.kids.length cap], .slice Ab b.length cb] W fun e w' => e = .returned (.bool (posIn t b)) ∧ Below W.heap.size W w') := fun W hW h => by
    have := posValid_any t b A cap _ W (hv.below hW hW.size) htx (hb.below hW hW.size)
    rwa [h, Bool.true_and] at this
  have C4 : Hid (∀ W, Below w.heap.size w W → validS t = true → posIn t a = true → posIn t b = true → Calls Try.prog 54 #[.slice Aa a.length ca, .slice Ab b.length cb] W (RangePost W (btS a b))) := fun W hW h1 h2 h3 => by
    have hc : countS t ≤ 1000 := by unfold validS at h1; simp only [Bool.and_eq_true, decide_eq_true_eq] at h1; omega
    obtain ⟨x1, x2, x3⟩ := posIn_ok hc h2
    obtain ⟨y1, y2, y3⟩ := posIn_ok hc h3
    exact between_any a b Aa Ab ca cb W (ha.below hW hW.size) (hb.below hW hW.size) x1 y1 ⟨x2, y2⟩ x3 y3
  generalize btS a b = r at *
  generalize posIn t a = b2 at *
  generalize posIn t b = b3 at *
  generalize validS t = b1 at *
  obtain ⟨tk, tx, tc, ts⟩ := t
  simp only [Tree.kind, Tree.text, Tree.cols, Tree.kids] at *
  clear hv htx ha hb
  generalize hW0 : (w.alloc (Obj.cells #[.int .i64 tk, .string tx, .int .i64 tc, .slice A ts.length cap] 24)).alloc (.cells #[.slice none 0 0, .int .i64 0, .int .i64 0] 29) = W0
  have KB : Hid (∀ W, Below W0.heap.size W0 W → (W.cell? ⟨w.heap.size, 0, none⟩ = some (.int .i64 tk) ∧ W.cell? ⟨w.heap.size, 1, none⟩ = some (.string tx) ∧ W.cell? ⟨w.heap.size, 2, none⟩ = some (.int .i64 tc) ∧ W.cell? ⟨w.heap.size, 3, none⟩ = some (.slice A ts.length cap)) ∧
      (W.cell? ⟨w.heap.size + 1, 0, none⟩ = some (.slice none 0 0) ∧ W.cell? ⟨w.heap.size + 1, 1, none⟩ = some (.int .i64 0) ∧ W.cell? ⟨w.heap.size + 1, 2, none⟩ = some (.int .i64 0)) ∧
      (W.frozen? ⟨w.heap.size + 1, 0, none⟩ = false ∧ W.frozen? ⟨w.heap.size + 1, 1, none⟩ = false ∧ W.frozen? ⟨w.heap.size + 1, 2, none⟩ = false) ∧ Below w.heap.size w W ∧ w.heap.size + 1 < W.heap.size) := by
    intro W hW
    have hz : W0.heap.size = w.heap.size + 1 + 1 := by rw [← hW0]; simp
    have hc := (bcell hW).1
    have hf := (bcell hW).2
    have hbb : Below w.heap.size w W0 := by rw [← hW0]; exact Below.alloc (below_allocR' _ _) (by simp) _
    refine ⟨⟨(hc _ _ (by omega)).trans ?_, (hc _ _ (by omega)).trans ?_, (hc _ _ (by omega)).trans ?_, (hc _ _ (by omega)).trans ?_⟩, ⟨(hc _ _ (by omega)).trans ?_, (hc _ _ (by omega)).trans ?_, (hc _ _ (by omega)).trans ?_⟩, ⟨(hf _ _ (by omega)).trans ?_, (hf _ _ (by omega)).trans ?_, (hf _ _ (by omega)).trans ?_⟩, hbb.trans (hW.mono hbb.size), by have := hW.size; omega⟩
    all_goals (rw [← hW0]; first | exact na2_c _ _ _ _ _ _ rfl | exact na_c _ _ _ _ _ (by simp) | exact na_f _ _ _ _ _ (by simp))
  rcases b1 with _ | _
  · clear C2 C3 C4
    obtain ⟨⟨m0, m1, m2, m3⟩, ⟨c0, c1, c2⟩, ⟨f0, f1, f2⟩, hbw0, hz0⟩ := KB.out W0 (Below.refl _ _)
    have HBW0 := hid hbw0
    clear hbw0
    go_enter Try.func16, Try.ntmps16
    go_wp2_with fail
    refine (C1.out _ HBW0.out).mono ?_
    rintro e w1 ⟨rfl, hb1⟩
    clear m0 m1 m2 m3 c0 c1 c2 f0 f1 f2 hz0
    obtain ⟨⟨m0, m1, m2, m3⟩, hr1, ⟨f0, f1, f2⟩, hbw1, hz1⟩ := KB.out w1 hb1
    have HBL1 := hid hb1
    have HBW1 := hid hbw1
    obtain ⟨c0, c1, c2⟩ := hr1
    have HR1 := hid (And.intro c0 (And.intro c1 c2))
    clear hb1 hbw1
    go_wp2_with fail
    generalize hW : ((w1.setCell _ (.slice none 0 0)).setCell _ (.int .i64 0)).setCell _ (.int .i64 0) = W
    obtain ⟨⟨r0, r1, r2⟩, rz, rb, ro⟩ := three HR1.out.1 HR1.out.2.1 HR1.out.2.2 _ _ _ hW.symm
    have HB' := hid (rb w.heap.size w (by omega) HBW1.out)
    have _u := trivial
    clear hW ro rb
    refine bodyPost_ret (v := .tuple #[.agg #[(.slice none 0 0), (.int .i64 0), (.int .i64 0)], .int .i64 1]) (by simp [results, Try.results16, go_sem, r0, r1, r2]) rfl ?_
    exact ⟨HB'.out, .inl ⟨rfl, rfl⟩⟩
  rcases b2 with _ | _
  · clear C3 C4
    obtain ⟨⟨m0, m1, m2, m3⟩, ⟨c0, c1, c2⟩, ⟨f0, f1, f2⟩, hbw0, hz0⟩ := KB.out W0 (Below.refl _ _)
    have HBW0 := hid hbw0
    clear hbw0
    go_enter Try.func16, Try.ntmps16
    go_wp2_with fail
    refine (C1.out _ HBW0.out).mono ?_
    rintro e w1 ⟨rfl, hb1⟩
    clear m0 m1 m2 m3 c0 c1 c2 f0 f1 f2 hz0
    obtain ⟨⟨m0, m1, m2, m3⟩, hr1, ⟨f0, f1, f2⟩, hbw1, hz1⟩ := KB.out w1 hb1
    have HBL1 := hid hb1
    have HBW1 := hid hbw1
    obtain ⟨c0, c1, c2⟩ := hr1
    have HR1 := hid (And.intro c0 (And.intro c1 c2))
    clear hb1 hbw1
    go_wp2_with fail
    refine (C2.out _ HBW1.out (by first | rfl | trivial)).mono ?_
    rintro e w2 ⟨rfl, hb2⟩
    clear m0 m1 m2 m3 f0 f1 f2 c0 c1 c2
    have HBL2 := hid (HBL1.out.trans (hb2.mono HBL1.out.size))
    obtain ⟨⟨m0, m1, m2, m3⟩, hr2, ⟨f0, f1, f2⟩, hbw2, hz2⟩ := KB.out w2 HBL2.out
    have HBW2 := hid hbw2
    obtain ⟨c0, c1, c2⟩ := hr2
    have HR2 := hid (And.intro c0 (And.intro c1 c2))
    clear hb2 hbw2
    go_wp2_with fail
    generalize hW : ((w2.setCell _ (.slice none 0 0)).setCell _ (.int .i64 0)).setCell _ (.int .i64 0) = W
    obtain ⟨⟨r0, r1, r2⟩, rz, rb, ro⟩ := three HR2.out.1 HR2.out.2.1 HR2.out.2.2 _ _ _ hW.symm
    have HB' := hid (rb w.heap.size w (by omega) HBW2.out)
    have _u := trivial
    clear hW ro rb
    refine bodyPost_ret (v := .tuple #[.agg #[(.slice none 0 0), (.int .i64 0), (.int .i64 0)], .int .i64 2]) (by simp [results, Try.results16, go_sem, r0, r1, r2]) rfl ?_
    exact ⟨HB'.out, .inr (.inl ⟨rfl, rfl, rfl⟩)⟩
  rcases b3 with _ | _
  · clear C4
    obtain ⟨⟨m0, m1, m2, m3⟩, ⟨c0, c1, c2⟩, ⟨f0, f1, f2⟩, hbw0, hz0⟩ := KB.out W0 (Below.refl _ _)
    have HBW0 := hid hbw0
    clear hbw0
    go_enter Try.func16, Try.ntmps16
    go_wp2_with fail
    refine (C1.out _ HBW0.out).mono ?_
    rintro e w1 ⟨rfl, hb1⟩
    clear m0 m1 m2 m3 c0 c1 c2 f0 f1 f2 hz0
    obtain ⟨⟨m0, m1, m2, m3⟩, hr1, ⟨f0, f1, f2⟩, hbw1, hz1⟩ := KB.out w1 hb1
    have HBL1 := hid hb1
    have HBW1 := hid hbw1
    obtain ⟨c0, c1, c2⟩ := hr1
    have HR1 := hid (And.intro c0 (And.intro c1 c2))
    clear hb1 hbw1
    go_wp2_with fail
    refine (C2.out _ HBW1.out (by first | rfl | trivial)).mono ?_
    rintro e w2 ⟨rfl, hb2⟩
    clear m0 m1 m2 m3 f0 f1 f2 c0 c1 c2
    have HBL2 := hid (HBL1.out.trans (hb2.mono HBL1.out.size))
    obtain ⟨⟨m0, m1, m2, m3⟩, hr2, ⟨f0, f1, f2⟩, hbw2, hz2⟩ := KB.out w2 HBL2.out
    have HBW2 := hid hbw2
    obtain ⟨c0, c1, c2⟩ := hr2
    have HR2 := hid (And.intro c0 (And.intro c1 c2))
    clear hb2 hbw2
    go_wp2_with fail
    refine (C3.out _ HBW2.out (by first | rfl | trivial)).mono ?_
    rintro e w3 ⟨rfl, hb3⟩
    clear m0 m1 m2 m3 f0 f1 f2 c0 c1 c2
    have HBL3 := hid (HBL2.out.trans (hb3.mono HBL2.out.size))
    obtain ⟨⟨m0, m1, m2, m3⟩, hr3, ⟨f0, f1, f2⟩, hbw3, hz3⟩ := KB.out w3 HBL3.out
    have HBW3 := hid hbw3
    obtain ⟨c0, c1, c2⟩ := hr3
    have HR3 := hid (And.intro c0 (And.intro c1 c2))
    clear hb3 hbw3
    go_wp2_with fail
    generalize hW : ((w3.setCell _ (.slice none 0 0)).setCell _ (.int .i64 0)).setCell _ (.int .i64 0) = W
    obtain ⟨⟨r0, r1, r2⟩, rz, rb, ro⟩ := three HR3.out.1 HR3.out.2.1 HR3.out.2.2 _ _ _ hW.symm
    have HB' := hid (rb w.heap.size w (by omega) HBW3.out)
    have _u := trivial
    clear hW ro rb
    refine bodyPost_ret (v := .tuple #[.agg #[(.slice none 0 0), (.int .i64 0), (.int .i64 0)], .int .i64 2]) (by simp [results, Try.results16, go_sem, r0, r1, r2]) rfl ?_
    exact ⟨HB'.out, .inr (.inl ⟨rfl, rfl, rfl⟩)⟩
  · skip
    obtain ⟨⟨m0, m1, m2, m3⟩, ⟨c0, c1, c2⟩, ⟨f0, f1, f2⟩, hbw0, hz0⟩ := KB.out W0 (Below.refl _ _)
    have HBW0 := hid hbw0
    clear hbw0
    go_enter Try.func16, Try.ntmps16
    go_wp2_with fail
    refine (C1.out _ HBW0.out).mono ?_
    rintro e w1 ⟨rfl, hb1⟩
    clear m0 m1 m2 m3 c0 c1 c2 f0 f1 f2 hz0
    obtain ⟨⟨m0, m1, m2, m3⟩, hr1, ⟨f0, f1, f2⟩, hbw1, hz1⟩ := KB.out w1 hb1
    have HBL1 := hid hb1
    have HBW1 := hid hbw1
    obtain ⟨c0, c1, c2⟩ := hr1
    have HR1 := hid (And.intro c0 (And.intro c1 c2))
    clear hb1 hbw1
    go_wp2_with fail
    refine (C2.out _ HBW1.out (by first | rfl | trivial)).mono ?_
    rintro e w2 ⟨rfl, hb2⟩
    clear m0 m1 m2 m3 f0 f1 f2 c0 c1 c2
    have HBL2 := hid (HBL1.out.trans (hb2.mono HBL1.out.size))
    obtain ⟨⟨m0, m1, m2, m3⟩, hr2, ⟨f0, f1, f2⟩, hbw2, hz2⟩ := KB.out w2 HBL2.out
    have HBW2 := hid hbw2
    obtain ⟨c0, c1, c2⟩ := hr2
    have HR2 := hid (And.intro c0 (And.intro c1 c2))
    clear hb2 hbw2
    go_wp2_with fail
    refine (C3.out _ HBW2.out (by first | rfl | trivial)).mono ?_
    rintro e w3 ⟨rfl, hb3⟩
    clear m0 m1 m2 m3 f0 f1 f2 c0 c1 c2
    have HBL3 := hid (HBL2.out.trans (hb3.mono HBL2.out.size))
    obtain ⟨⟨m0, m1, m2, m3⟩, hr3, ⟨f0, f1, f2⟩, hbw3, hz3⟩ := KB.out w3 HBL3.out
    have HBW3 := hid hbw3
    obtain ⟨c0, c1, c2⟩ := hr3
    have HR3 := hid (And.intro c0 (And.intro c1 c2))
    clear hb3 hbw3
    go_wp2_with fail
    refine (C4.out _ HBW3.out (by first | rfl | trivial) (by first | rfl | trivial) (by first | rfl | trivial)).mono ?_
    rintro e w4 ⟨v4, rfl, hi4, hb4⟩
    obtain ⟨A4, c4n, rfl⟩ := hi4.form
    have HI4 := hid hi4
    clear hi4
    clear m0 m1 m2 m3 f0 f1 f2 c0 c1 c2
    have HBL4 := hid (HBL3.out.trans (hb4.mono HBL3.out.size))
    obtain ⟨⟨m0, m1, m2, m3⟩, hr4, ⟨f0, f1, f2⟩, hbw4, hz4⟩ := KB.out w4 HBL4.out
    have HBW4 := hid hbw4
    obtain ⟨c0, c1, c2⟩ := hr4
    have HR4 := hid (And.intro c0 (And.intro c1 c2))
    clear hb4 hbw4
    go_wp2_with fail
    generalize hW : ((w4.setCell _ (.slice A4 r.1.length c4n)).setCell _ (.int .i64 r.2.1)).setCell _ (.int .i64 r.2.2) = W
    obtain ⟨⟨r0, r1, r2⟩, rz, rb, ro⟩ := three HR4.out.1 HR4.out.2.1 HR4.out.2.2 _ _ _ hW.symm
    have HB' := hid (rb w.heap.size w (by omega) HBW4.out)
    have HI' : Hid (IntsR W (fun k => w.heap.size ≤ k ∧ k < W.heap.size) r.1 (.slice A4 r.1.length c4n)) := by
      refine HI4.out.keep (fun p hp => ro p ?_) (fun j hj => ?_)
      · have := hp.1; have := hz3; omega
      · have := hj.1; have := hj.2; have := HBW3.out.size; exact ⟨by omega, by omega⟩
    clear hW ro rb
    refine bodyPost_ret (v := .tuple #[.agg #[(.slice A4 r.1.length c4n), (.int .i64 r.2.1), (.int .i64 r.2.2)], .int .i64 0]) (by simp [results, Try.results16, go_sem, r0, r1, r2]) rfl ?_
    exact ⟨HB'.out, .inr (.inr ⟨rfl, rfl, rfl, _, rfl, HI'.out⟩)⟩
end Go.Proofs.Ytognlokeadlpbaa
