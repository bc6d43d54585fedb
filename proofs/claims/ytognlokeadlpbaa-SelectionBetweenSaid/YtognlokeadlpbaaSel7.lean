/- ref11.Between. Written by wip/gensel7.py out of XSel3.lean. -/
import Derived.Test.YtognlokeadlpbaaSel3
import Derived.Test.YtognlokeadlpbaaIdx
import Derived.Test.YtognlokeadlpbaaSel6
import Derived.IntWalk
set_option linter.unusedVariables false
set_option linter.unusedSimpArgs false
set_option maxRecDepth 100000
namespace Go.Proofs.Ytognlokeadlpbaa
open Go.RowKit

theorem owns_dn {w : World} {b : Nat} {xs : List Int} {v : Value} {n : Nat} (h : Owns w b xs v) : Owns (w.drewN n) b xs v := h

set_option maxHeartbeats 8000000 in
theorem rBetween_any (t : Tree) (a b : List Int) (A : Option Addr) (cap : Nat) (va vb : Value) (w : World) (hv : SliceR treeE w (Lt w.heap.size) t.kids (.slice A t.kids.length cap)) (htx : t.text.size ≤ maxLen) (hct : countS t ≤ 900000) (ha : IntsR w (Lt w.heap.size) a va) (hb : IntsR w (Lt w.heap.size) b vb) :
    Calls Try.prog 17 #[.agg #[.int .i64 t.kind, .string t.text, .int .i64 t.cols, .slice A t.kids.length cap], va, vb] w (BetRes w (validS t) (posIn t a) (posIn t b) (btS a b)) := by
  obtain ⟨Aa, ca, rfl⟩ := ha.form
  obtain ⟨Ab, cb, rfl⟩ := hb.form
  have C1 : Hid (∀ W, Below w.heap.size w W → Calls Try.prog 55 #[.agg #[.int .i64 t.kind, .string t.text, .int .i64 t.cols, .slice A t.kids.length cap]] W fun e w' => e = .returned (.bool (validS t)) ∧ Below W.heap.size W w') := fun W hW => valid_any t A cap W (hv.below hW hW.size) htx (by omega)
  have C2 : Hid (∀ W, Below w.heap.size w W → validS t = true → Calls Try.prog 37 #[.agg #[.int .i64 t.kind, .string t.text, .int .i64 t.cols, .slice A t.kids.length cap], .slice Aa a.length ca] W fun e w' => e = .returned (.bool (posIn t a)) ∧ Below W.heap.size W w') := fun W hW h => by
    have := rValid_any t a A cap _ W (hv.below hW hW.size) htx hct (ha.below hW hW.size)
    rwa [h, Bool.true_and] at this
  have C3 : Hid (∀ W, Below w.heap.size w W → validS t = true → Calls Try.prog 37 #[.agg #[.int .i64 t.kind, .string t.text, .int .i64 t.cols, .slice A t.kids.length cap], .slice Ab b.length cb] W fun e w' => e = .returned (.bool (posIn t b)) ∧ Below W.heap.size W w') := fun W hW h => by
    have := rValid_any t b A cap _ W (hv.below hW hW.size) htx hct (hb.below hW hW.size)
    rwa [h, Bool.true_and] at this
  have C4 : Hid (validS t = true → posIn t a = true → posIn t b = true → (0 < a.length ∧ 0 < b.length) ∧ (a.length ≤ 1000000 ∧ b.length ≤ 1000000) ∧ (∀ x ∈ a, 0 ≤ x ∧ x ≤ 1000000) ∧ (∀ x ∈ b, 0 ≤ x ∧ x ≤ 1000000)) := fun h1 h2 h3 => by
    have hc : countS t ≤ 1000 := by unfold validS at h1; simp only [Bool.and_eq_true, decide_eq_true_eq] at h1; omega
    obtain ⟨x1, x2, x3⟩ := posIn_ok hc h2
    obtain ⟨y1, y2, y3⟩ := posIn_ok hc h3
    exact ⟨⟨x1, y1⟩, ⟨x2, y2⟩, x3, y3⟩
  have HA : Hid (∀ W, Below w.heap.size w W → IntsR W (Lt W.heap.size) a (.slice Aa a.length ca)) := fun W h => ha.below h h.size
  have HB : Hid (∀ W, Below w.heap.size w W → IntsR W (Lt W.heap.size) b (.slice Ab b.length cb)) := fun W h => hb.below h h.size
  have HBT : Hid (btS a b = (a.take (comS a b), min (a.getD (comS a b) 0) (b.getD (comS a b) 0), max (extS (a.drop (comS a b))) (extS (b.drop (comS a b))))) := rfl
  generalize btS a b = r at *
  generalize posIn t a = b2 at *
  generalize posIn t b = b3 at *
  generalize validS t = b1 at *
  obtain ⟨tk, tx, tc, ts⟩ := t
  simp only [Tree.kind, Tree.text, Tree.cols, Tree.kids] at *
  clear hv htx ha hb hct
  generalize hW0 : (w.alloc (Obj.cells #[.int .i64 tk, .string tx, .int .i64 tc, .slice A ts.length cap] 24)).alloc (.cells #[.slice none 0 0, .int .i64 0, .int .i64 0] 29) = W0
  have KB : Hid (∀ W, Below W0.heap.size W0 W → (W.cell? ⟨w.heap.size, 0, none⟩ = some (.int .i64 tk) ∧ W.cell? ⟨w.heap.size, 1, none⟩ = some (.string tx) ∧ W.cell? ⟨w.heap.size, 2, none⟩ = some (.int .i64 tc) ∧ W.cell? ⟨w.heap.size, 3, none⟩ = some (.slice A ts.length cap)) ∧
      (W.cell? ⟨w.heap.size + 1, 0, none⟩ = some (.slice none 0 0) ∧ W.cell? ⟨w.heap.size + 1, 1, none⟩ = some (.int .i64 0) ∧ W.cell? ⟨w.heap.size + 1, 2, none⟩ = some (.int .i64 0)) ∧
      (W.frozen? ⟨w.heap.size + 1, 0, none⟩ = false ∧ W.frozen? ⟨w.heap.size + 1, 1, none⟩ = false ∧ W.frozen? ⟨w.heap.size + 1, 2, none⟩ = false) ∧ Below w.heap.size w W ∧ w.heap.size + 1 < W.heap.size) := by
    intro W hW
    have hz : W0.heap.size = w.heap.size + 1 + 1 := by rw [← hW0]; simp
    have hc := (bcell hW).1
    have hf := (bcell hW).2
    have hbb : Below w.heap.size w W0 := by rw [← hW0]; exact Below.alloc (below_allocR' _ _) (by simp) _
    refine ⟨⟨(hc _ _ (by omega)).trans ?_, (hc _ _ (by omega)).trans ?_, (hc _ _ (by omega)).trans ?_, (hc _ _ (by omega)).trans ?_⟩, ⟨(hc _ _ (by omega)).trans ?_, (hc _ _ (by omega)).trans ?_, (hc _ _ (by omega)).trans ?_⟩, ⟨(hf _ _ (by omega)).trans ?_, (hf _ _ (by omega)).trans ?_, (hf _ _ (by omega)).trans ?_⟩, hbb.trans (hW.mono hbb.size), by have := hW.size; omega⟩
    all_goals (rw [← hW0]; first | exact na2_c _ _ _ _ _ _ rfl | exact na_c _ _ _ _ _ (by simp) | exact na_f _ _ _ _ _ (by simp))
  rcases b1 with _ | _
  · clear C2 C3 C4
    obtain ⟨⟨m0, m1, m2, m3⟩, ⟨c0, c1, c2⟩, ⟨f0, f1, f2⟩, hbw0, hz0⟩ := KB.out W0 (Below.refl _ _)
    have HBW0 := hid hbw0
    clear hbw0
    go_enter Try.func17, Try.ntmps17
    go_wp2_with fail
    refine (C1.out _ HBW0.out).mono ?_
    rintro e w1 ⟨rfl, hb1⟩
    clear m0 m1 m2 m3 c0 c1 c2 f0 f1 f2 hz0
    obtain ⟨⟨m0, m1, m2, m3⟩, hr1, ⟨f0, f1, f2⟩, hbw1, hz1⟩ := KB.out w1 hb1
    have HBL1 := hid hb1
    have HBW1 := hid hbw1
    obtain ⟨c0, c1, c2⟩ := hr1
    have HR1 := hid (And.intro c0 (And.intro c1 c2))
    clear hb1 hbw1
    go_wp2_with fail
    generalize hW : ((w1.setCell _ (.slice none 0 0)).setCell _ (.int .i64 0)).setCell _ (.int .i64 0) = W
    obtain ⟨⟨r0, r1, r2⟩, rz, rb, ro⟩ := three HR1.out.1 HR1.out.2.1 HR1.out.2.2 _ _ _ hW.symm
    have HB' := hid (rb w.heap.size w (by omega) HBW1.out)
    have _u := trivial
    clear hW ro rb
    refine bodyPost_ret (v := .tuple #[.agg #[(.slice none 0 0), (.int .i64 0), (.int .i64 0)], .int .i64 1]) (by simp [results, Try.results17, go_sem, r0, r1, r2]) rfl ?_
    exact ⟨HB'.out, .inl ⟨rfl, rfl⟩⟩
  rcases b2 with _ | _
  · clear C3 C4
    obtain ⟨⟨m0, m1, m2, m3⟩, ⟨c0, c1, c2⟩, ⟨f0, f1, f2⟩, hbw0, hz0⟩ := KB.out W0 (Below.refl _ _)
    have HBW0 := hid hbw0
    clear hbw0
    go_enter Try.func17, Try.ntmps17
    go_wp2_with fail
    refine (C1.out _ HBW0.out).mono ?_
    rintro e w1 ⟨rfl, hb1⟩
    clear m0 m1 m2 m3 c0 c1 c2 f0 f1 f2 hz0
    obtain ⟨⟨m0, m1, m2, m3⟩, hr1, ⟨f0, f1, f2⟩, hbw1, hz1⟩ := KB.out w1 hb1
    have HBL1 := hid hb1
    have HBW1 := hid hbw1
    obtain ⟨c0, c1, c2⟩ := hr1
    have HR1 := hid (And.intro c0 (And.intro c1 c2))
    clear hb1 hbw1
    go_wp2_with fail
    refine (C2.out _ HBW1.out (by first | rfl | trivial)).mono ?_
    rintro e w2 ⟨rfl, hb2⟩
    clear m0 m1 m2 m3 f0 f1 f2 c0 c1 c2
    have HBL2 := hid (HBL1.out.trans (hb2.mono HBL1.out.size))
    obtain ⟨⟨m0, m1, m2, m3⟩, hr2, ⟨f0, f1, f2⟩, hbw2, hz2⟩ := KB.out w2 HBL2.out
    have HBW2 := hid hbw2
    obtain ⟨c0, c1, c2⟩ := hr2
    have HR2 := hid (And.intro c0 (And.intro c1 c2))
    clear hb2 hbw2
    go_wp2_with fail
    generalize hW : ((w2.setCell _ (.slice none 0 0)).setCell _ (.int .i64 0)).setCell _ (.int .i64 0) = W
    obtain ⟨⟨r0, r1, r2⟩, rz, rb, ro⟩ := three HR2.out.1 HR2.out.2.1 HR2.out.2.2 _ _ _ hW.symm
    have HB' := hid (rb w.heap.size w (by omega) HBW2.out)
    have _u := trivial
    clear hW ro rb
    refine bodyPost_ret (v := .tuple #[.agg #[(.slice none 0 0), (.int .i64 0), (.int .i64 0)], .int .i64 2]) (by simp [results, Try.results17, go_sem, r0, r1, r2]) rfl ?_
    exact ⟨HB'.out, .inr (.inl ⟨rfl, rfl, rfl⟩)⟩
  rcases b3 with _ | _
  · clear C4
    obtain ⟨⟨m0, m1, m2, m3⟩, ⟨c0, c1, c2⟩, ⟨f0, f1, f2⟩, hbw0, hz0⟩ := KB.out W0 (Below.refl _ _)
    have HBW0 := hid hbw0
    clear hbw0
    go_enter Try.func17, Try.ntmps17
    go_wp2_with fail
    refine (C1.out _ HBW0.out).mono ?_
    rintro e w1 ⟨rfl, hb1⟩
    clear m0 m1 m2 m3 c0 c1 c2 f0 f1 f2 hz0
    obtain ⟨⟨m0, m1, m2, m3⟩, hr1, ⟨f0, f1, f2⟩, hbw1, hz1⟩ := KB.out w1 hb1
    have HBL1 := hid hb1
    have HBW1 := hid hbw1
    obtain ⟨c0, c1, c2⟩ := hr1
    have HR1 := hid (And.intro c0 (And.intro c1 c2))
    clear hb1 hbw1
    go_wp2_with fail
    refine (C2.out _ HBW1.out (by first | rfl | trivial)).mono ?_
    rintro e w2 ⟨rfl, hb2⟩
    clear m0 m1 m2 m3 f0 f1 f2 c0 c1 c2
    have HBL2 := hid (HBL1.out.trans (hb2.mono HBL1.out.size))
    obtain ⟨⟨m0, m1, m2, m3⟩, hr2, ⟨f0, f1, f2⟩, hbw2, hz2⟩ := KB.out w2 HBL2.out
    have HBW2 := hid hbw2
    obtain ⟨c0, c1, c2⟩ := hr2
    have HR2 := hid (And.intro c0 (And.intro c1 c2))
    clear hb2 hbw2
    go_wp2_with fail
    refine (C3.out _ HBW2.out (by first | rfl | trivial)).mono ?_
    rintro e w3 ⟨rfl, hb3⟩
    clear m0 m1 m2 m3 f0 f1 f2 c0 c1 c2
    have HBL3 := hid (HBL2.out.trans (hb3.mono HBL2.out.size))
    obtain ⟨⟨m0, m1, m2, m3⟩, hr3, ⟨f0, f1, f2⟩, hbw3, hz3⟩ := KB.out w3 HBL3.out
    have HBW3 := hid hbw3
    obtain ⟨c0, c1, c2⟩ := hr3
    have HR3 := hid (And.intro c0 (And.intro c1 c2))
    clear hb3 hbw3
    go_wp2_with fail
    generalize hW : ((w3.setCell _ (.slice none 0 0)).setCell _ (.int .i64 0)).setCell _ (.int .i64 0) = W
    obtain ⟨⟨r0, r1, r2⟩, rz, rb, ro⟩ := three HR3.out.1 HR3.out.2.1 HR3.out.2.2 _ _ _ hW.symm
    have HB' := hid (rb w.heap.size w (by omega) HBW3.out)
    have _u := trivial
    clear hW ro rb
    refine bodyPost_ret (v := .tuple #[.agg #[(.slice none 0 0), (.int .i64 0), (.int .i64 0)], .int .i64 2]) (by simp [results, Try.results17, go_sem, r0, r1, r2]) rfl ?_
    exact ⟨HB'.out, .inr (.inl ⟨rfl, rfl, rfl⟩)⟩
  · skip
    obtain ⟨⟨m0, m1, m2, m3⟩, ⟨c0, c1, c2⟩, ⟨f0, f1, f2⟩, hbw0, hz0⟩ := KB.out W0 (Below.refl _ _)
    have HBW0 := hid hbw0
    clear hbw0
    go_enter Try.func17, Try.ntmps17
    go_wp2_with fail
    refine (C1.out _ HBW0.out).mono ?_
    rintro e w1 ⟨rfl, hb1⟩
    clear m0 m1 m2 m3 c0 c1 c2 f0 f1 f2 hz0
    obtain ⟨⟨m0, m1, m2, m3⟩, hr1, ⟨f0, f1, f2⟩, hbw1, hz1⟩ := KB.out w1 hb1
    have HBL1 := hid hb1
    have HBW1 := hid hbw1
    obtain ⟨c0, c1, c2⟩ := hr1
    have HR1 := hid (And.intro c0 (And.intro c1 c2))
    clear hb1 hbw1
    go_wp2_with fail
    refine (C2.out _ HBW1.out (by first | rfl | trivial)).mono ?_
    rintro e w2 ⟨rfl, hb2⟩
    clear m0 m1 m2 m3 f0 f1 f2 c0 c1 c2
    have HBL2 := hid (HBL1.out.trans (hb2.mono HBL1.out.size))
    obtain ⟨⟨m0, m1, m2, m3⟩, hr2, ⟨f0, f1, f2⟩, hbw2, hz2⟩ := KB.out w2 HBL2.out
    have HBW2 := hid hbw2
    obtain ⟨c0, c1, c2⟩ := hr2
    have HR2 := hid (And.intro c0 (And.intro c1 c2))
    clear hb2 hbw2
    go_wp2_with fail
    refine (C3.out _ HBW2.out (by first | rfl | trivial)).mono ?_
    rintro e w3 ⟨rfl, hb3⟩
    clear m0 m1 m2 m3 f0 f1 f2 c0 c1 c2
    have HBL3 := hid (HBL2.out.trans (hb3.mono HBL2.out.size))
    obtain ⟨⟨m0, m1, m2, m3⟩, hr3, ⟨f0, f1, f2⟩, hbw3, hz3⟩ := KB.out w3 HBL3.out
    have HBW3 := hid hbw3
    obtain ⟨c0, c1, c2⟩ := hr3
    have HR3 := hid (And.intro c0 (And.intro c1 c2))
    clear hb3 hbw3
    obtain ⟨⟨h0, h1⟩, ⟨hl1, hl2⟩, hxa, hxb⟩ := C4.out (by first | rfl | trivial) (by first | rfl | trivial) (by first | rfl | trivial)
    have HXA := hid hxa
    have HXB := hid hxb
    obtain ⟨hk1, hk2⟩ := comS_lt a b h0 h1
    have HA3 := hid (HA.out w3 HBW3.out)
    have HB3 := hid (HB.out w3 HBW3.out)
    clear hxa hxb C1 C2 C3 C4 HA HB
    go_wp2_with fail
    go_loopw [8] (fun i wr => (∃ n, wr = w3.drewN n) ∧ ∃ k : Nat, k < a.length ∧ k < b.length ∧ i = .int .i64 k ∧ comS (a.drop k) (b.drop k) + k = comS a b) (fun i _ => a.length - (intOf i).toNat)
    case atStart => exact ⟨⟨0, rfl⟩, 0, h0, h1, rfl, rfl⟩
    case round =>
      obtain ⟨⟨n, rfl⟩, k, hk1, hk2, rfl, hrest⟩ := hrel
      have HR := hid hrest
      obtain ⟨ga, oa, rfl, hga, HCA, hca, _⟩ := elem_at HA3.out hk1
      obtain ⟨gb, ob, rfl, hgb, HCB, hcb, _⟩ := elem_at HB3.out hk2
      have qa := HCA w3 (Below.refl _ _) k hk1
      have qb := HCB w3 (Below.refl _ _) k hk2
      have HPA : Hid (∀ h : k + 1 < a.length, w3.cell? ⟨ga, oa + (k + 1), none⟩ = some (.int .i64 a[k + 1])) := fun h => HCA w3 (Below.refl _ _) (k + 1) h
      have HPB : Hid (∀ h : k + 1 < b.length, w3.cell? ⟨gb, ob + (k + 1), none⟩ = some (.int .i64 b[k + 1])) := fun h => HCB w3 (Below.refl _ _) (k + 1) h
      have ia : (k : Int) < (a.length : Int) := by omega
      have ib : (k : Int) < (b.length : Int) := by omega
      have wd : IntKind.i64.wrap ((k : Int) + 2) = (k : Int) + 2 := IntWalk.i64_in _ (by omega)
      have we : IntKind.i64.wrap ((k : Int) + 1) = (k : Int) + 1 := IntWalk.i64_in _ (by omega)
      have wn : ((k : Int) + 1).toNat = k + 1 := by omega
      have wp : (0 : Int) ≤ (k : Int) + 1 := by omega
      clear hrest HCA HCB
      by_cases hgo : (k + 2 < a.length ∧ k + 2 < b.length) ∧ ∀ (p : k + 1 < a.length) (q : k + 1 < b.length), a[k] = b[k] ∧ a[k + 1] = b[k + 1]
      · obtain ⟨⟨l1, l2⟩, hq'⟩ := hgo
        have hq := hq' (by omega) (by omega)
        have p1 := HPA.out (Nat.lt_of_succ_lt l1)
        have p2 := HPB.out (Nat.lt_of_succ_lt l2)
        have i1 : (k : Int) + 2 < (a.length : Int) := by omega
        have i2 : (k : Int) + 2 < (b.length : Int) := by omega
        have i3 : (k : Int) + 1 < (a.length : Int) := by omega
        have i4 : (k : Int) + 1 < (b.length : Int) := by omega
        have d1 : decide ((k : Int) + 2 < (a.length : Int)) = true := decide_eq_true i1
        have d2 : decide ((k : Int) + 2 < (b.length : Int)) = true := decide_eq_true i2
        have HN : Hid (comS (a.drop (k + 2)) (b.drop (k + 2)) + (k + 2) = comS a b) := by show _ = _; rw [← HR.out, comS_step l1 l2 hq.1 hq.2]; omega
        have e1 : (a[k] == b[k]) = true := by simpa using hq.1
        have e2 : (a[k + 1]'(Nat.lt_of_succ_lt l1) == b[k + 1]'(Nat.lt_of_succ_lt l2)) = true := by simpa using hq.2
        clear hq hq'
        go_wp2_with fail
        go_quiet (fail)
        clear wd we
        go_wp2_with fail
        go_roundw
        case rel => exact ⟨by first | exact ⟨_, rfl⟩ | (simp only [World.drewN_drewN]; exact ⟨_, rfl⟩), k + 2, by omega, by omega, by go_num, HN.out⟩
        case measure => simp [intOf]; omega
      · have HST : Hid (comS a b = k) := by
          show _ = _
          rw [← HR.out]
          by_cases hlong : k + 2 < a.length ∧ k + 2 < b.length
          · rw [comS_part hlong.1 hlong.2 (fun h => hgo ⟨hlong, fun _ _ => h⟩)]; omega
          · rw [comS_stop hlong]; omega
        go_upto_region 6 with fail
        go_cut [63] (fun s wx => s = .bool false ∧ ∃ n, wx = w3.drewN n)
        case first =>
          by_cases hlong : k + 2 < a.length ∧ k + 2 < b.length
          · obtain ⟨l1, l2⟩ := hlong
            have p1 := HPA.out (Nat.lt_of_succ_lt l1)
            have p2 := HPB.out (Nat.lt_of_succ_lt l2)
            have i1 : (k : Int) + 2 < (a.length : Int) := by omega
            have i2 : (k : Int) + 2 < (b.length : Int) := by omega
            have i3 : (k : Int) + 1 < (a.length : Int) := by omega
            have i4 : (k : Int) + 1 < (b.length : Int) := by omega
            have d1 : decide ((k : Int) + 2 < (a.length : Int)) = true := decide_eq_true i1
            have d2 : decide ((k : Int) + 2 < (b.length : Int)) = true := decide_eq_true i2
            by_cases hq : a[k] = b[k]
            · have e1 : (a[k] == b[k]) = true := by simpa using hq
              have e2 : (a[k + 1]'(Nat.lt_of_succ_lt l1) == b[k + 1]'(Nat.lt_of_succ_lt l2)) = false := by rw [beq_eq_false_iff_ne]; exact fun h => hgo ⟨⟨l1, l2⟩, fun _ _ => ⟨hq, h⟩⟩
              clear hq hgo
              go_quiet (fail)
              clear wd we
              go_wp2_with fail
              go_meet
              exact ⟨rfl, by first | exact ⟨_, rfl⟩ | (simp only [World.drewN_drewN]; exact ⟨_, rfl⟩)⟩
            · have e1 : (a[k] == b[k]) = false := by simpa using hq
              clear hq hgo
              go_quiet (fail)
              clear wd we
              go_wp2_with fail
              go_meet
              exact ⟨rfl, by first | exact ⟨_, rfl⟩ | (simp only [World.drewN_drewN]; exact ⟨_, rfl⟩)⟩
          · have e12 : ¬ ((k : Int) + 2 < (a.length : Int)) ∨ ((k : Int) + 2 < (a.length : Int) ∧ ¬ ((k : Int) + 2 < (b.length : Int))) := by omega
            clear hgo hlong
            rcases e12 with e1 | ⟨e1, e2⟩
            · have d1 : decide ((k : Int) + 2 < (a.length : Int)) = false := decide_eq_false e1
              go_quiet (fail)
              go_wp2_with fail
              go_meet
              exact ⟨rfl, by first | exact ⟨_, rfl⟩ | (simp only [World.drewN_drewN]; exact ⟨_, rfl⟩)⟩
            · have d1 : decide ((k : Int) + 2 < (a.length : Int)) = true := decide_eq_true e1
              have d2 : decide ((k : Int) + 2 < (b.length : Int)) = false := decide_eq_false e2
              go_quiet (fail)
              go_wp2_with fail
              go_meet
              exact ⟨rfl, by first | exact ⟨_, rfl⟩ | (simp only [World.drewN_drewN]; exact ⟨_, rfl⟩)⟩
        case rest =>
          obtain ⟨rfl, m, rfl⟩ := hcut
          have HE1 : Hid (∀ q, Calls Try.prog 56 #[.slice (some ⟨ga, oa, none⟩) a.length ca, .int .i64 k] (w3.drewN q) fun e w' => e = .returned (.tuple #[.int .i64 a[k], .int .i64 (extS (a.drop k))]) ∧ ∃ n, w' = (w3.drewN q).drewN n) :=
            fun q => ends_q a k _ (w3.drewN q) (Lt w3.heap.size) (HA3.out.keep (fun _ _ => rfl) (fun _ h => h)) hk1 hl1 (HXA.out _ (List.getElem_mem hk1))
          have HE2 : Hid (∀ q, Calls Try.prog 56 #[.slice (some ⟨gb, ob, none⟩) b.length cb, .int .i64 k] (w3.drewN q) fun e w' => e = .returned (.tuple #[.int .i64 b[k], .int .i64 (extS (b.drop k))]) ∧ ∃ n, w' = (w3.drewN q).drewN n) :=
            fun q => ends_q b k _ (w3.drewN q) (Lt w3.heap.size) (HB3.out.keep (fun _ _ => rfl) (fun _ h => h)) hk2 hl2 (HXB.out _ (List.getElem_mem hk2))
          obtain ⟨A3, hsl, hcut⟩ := cut_h intE Try.underlying25 size_int (some ⟨ga, oa, none⟩) a.length ca (k : Int) k rfl (by omega) hca
          have HTK : Hid (∀ q, IntsR ((w3.alloc (.cells #[] 3)).drewN q) (Lt ((w3.alloc (.cells #[] 3)).drewN q).heap.size) (a.take k) (.slice A3 k ca)) := fun q => hcut _ _ _ (HA3.out.below (bl_dn (bl_alloc (Below.refl _ _) _)) (by simp))
          have HLK : Hid ((a.take k).length = k) := by show _ = _; simp; omega
          have HGA : Hid (a.getD k 0 = a[k]) := by show _ = _; rw [List.getD_eq_getElem?_getD, List.getElem?_eq_getElem hk1]; rfl
          have HGB : Hid (b.getD k 0 = b[k]) := by show _ = _; rw [List.getD_eq_getElem?_getD, List.getElem?_eq_getElem hk2]; rfl
          have HFIN : Hid (r = (a.take k, min a[k] b[k], max (extS (a.drop k)) (extS (b.drop k)))) := by show _ = _; rw [HBT.out, HST.out, HGA.out, HGB.out]
          have hkl : k ≤ 1000000 := by omega
          have hkk : (k : Int) ≤ (ca : Int) := by omega
          clear hcut hgo wd we wn wp qa qb HPA HPB HA3 HB3 HXA HXB HGA HGB HST HR HBT
          generalize a[k] = xa at *
          generalize b[k] = xb at *
          generalize extS (a.drop k) = ea at *
          generalize extS (b.drop k) = eb at *
          go_wp2_with fail
          refine (HE1.out _).mono ?_
          rintro e w4 ⟨rfl, n4, rfl⟩
          simp only [World.drewN_drewN]
          go_wp2_with fail
          refine (HE2.out _).mono ?_
          rintro e w5 ⟨rfl, n5, rfl⟩
          simp only [World.drewN_drewN]
          go_wp2_with (at_builtin; refine app_ints rfl (.tmp 78) (.tmp 81) rfl w3.heap.size _ [] (a.take k) rfl (owns_dn (owns_empty w3)) _ _ _ _ rfl (HTK.out _) (by simp; omega) (by simp) ?_; intro v6 w6 hown6 hb6 _; simp only [List.nil_append] at hown6; obtain ⟨A6, c6, hv6⟩ := (hown6.ints (S := fun _ => True) (fun _ _ _ => trivial)).form; rw [HLK.out] at hv6; subst hv6; have HO6 := hid hown6; have HB6 := hid ((bl_dn (bl_alloc (Below.refl w3.heap.size w3) _)).trans hb6); obtain ⟨_, hr6, ⟨f0', f1', f2'⟩, hbw6, hz6⟩ := KB.out w6 (HBL3.out.trans (HB6.out.mono HBL3.out.size)); have HBW6 := hid hbw6; obtain ⟨c0', c1', c2'⟩ := hr6; have HR6 := hid (And.intro c0' (And.intro c1' c2')); clear hown6 hb6 hbw6)
          generalize hW : ((w6.setCell _ (.slice A6 k c6)).setCell _ (.int .i64 (min xa xb))).setCell _ (.int .i64 (max ea eb)) = W
          obtain ⟨⟨r0, r1, r2⟩, rz, rb, ro⟩ := three HR6.out.1 HR6.out.2.1 HR6.out.2.2 _ _ _ hW.symm
          have HB' := hid (rb w.heap.size w (by omega) HBW6.out)
          have HI' : Hid (IntsR W (fun k => w.heap.size ≤ k ∧ k < W.heap.size) (a.take k) (.slice A6 k c6)) := (HO6.out.ints (S := fun j => w3.heap.size ≤ j ∧ j < w6.heap.size) (fun j h1 h2 => ⟨h1, h2⟩)).keep (fun p hp => ro p (by have := hp.1; omega)) (fun j hj => by have := hj.1; have := hj.2; have := HBW3.out.size; exact ⟨by omega, by omega⟩)
          clear hW ro rb
          refine bodyPost_ret (v := .tuple #[.agg #[.slice A6 k c6, .int .i64 (min xa xb), .int .i64 (max ea eb)], .int .i64 0]) (by simp [results, Try.results17, go_sem, r0, r1, r2]) rfl ?_
          exact ⟨HB'.out, .inr (.inr ⟨rfl, rfl, rfl, .slice A6 k c6, by rw [HFIN.out], by rw [HFIN.out]; exact HI'.out⟩)⟩
end Go.Proofs.Ytognlokeadlpbaa
