/- Texts put together: Row9, Row0. -/
import Derived.Test.YtmahiejfniaahaaGreatDoorGI
import Derived.Test.YtmahiejfniaahaaGreatDoorGJ
import Derived.Test.YtmahiejfniaahaaGreatDoorGH
set_option linter.unusedVariables false
set_option linter.unusedSimpArgs false
set_option maxRecDepth 100000
namespace Go.Proofs.YtmahiejfniaahaaGreatDoor
open Go.RowKit
def rowRes (t : Tree) (p : List Int) : Tree × Int := if validS t = false then (zeroT, 1) else if (findS t p).2 = false then (zeroT, 8) else ((findS t p).1, 0)
def RowP (S : Nat → Prop) (w : World) (k : Int) (x : ByteArray) (c : Int) (ts : List Tree) (er : Int) (e : Ending) (w' : World) : Prop :=
  ∃ v, e = .returned (.tuple #[.agg #[.int .i64 k, .string x, .int .i64 c, v], .int .i64 er]) ∧ SliceR treeE w' S ts v ∧ Below w.heap.size w w'
set_option maxHeartbeats 2000000 in
theorem rRow_any (t : Tree) (p : List Int) (A Ap : Option Addr) (cap cp : Nat) (w : World) (hv : SliceR treeE w (Lt w.heap.size) t.kids (.slice A t.kids.length cap)) (htx : t.text.size ≤ maxLen) (hct : countS t ≤ 900000) (hp : IntsR w (Lt w.heap.size) p (.slice Ap p.length cp)) :
    Calls Tryz.prog 34 #[.agg #[.int .i64 t.kind, .string t.text, .int .i64 t.cols, .slice A t.kids.length cap], .slice Ap p.length cp] w (RowP (Lt w.heap.size) w (rowRes t p).1.kind (rowRes t p).1.text (rowRes t p).1.cols (rowRes t p).1.kids (rowRes t p).2) := by
  have C1 : Hid (∀ W, Below w.heap.size w W → Calls Tryz.prog 31 #[.agg #[.int .i64 t.kind, .string t.text, .int .i64 t.cols, .slice A t.kids.length cap]] W fun e w' => e = .returned (.bool (validS t)) ∧ Below W.heap.size W w') := fun W hW => valid_any t A cap W (hv.below hW hW.size) htx (by omega)
  have C2 : Hid (∀ W, Below w.heap.size w W → Calls Tryz.prog 72 #[.agg #[.int .i64 t.kind, .string t.text, .int .i64 t.cols, .slice A t.kids.length cap], .slice Ap p.length cp] W (FindPost (Lt w.heap.size) W (findS t p))) := fun W hW => find_any t p W _ _ (Lt w.heap.size) (fun k h => Nat.lt_of_lt_of_le h hW.size) (hv.keep (Same.of_below hW (Nat.le_refl _)) (fun _ h => h)) (hp.below hW hW.size)
  have HR : Hid (rowRes t p = if validS t = false then (zeroT, 1) else if (findS t p).2 = false then (zeroT, 8) else ((findS t p).1, 0)) := rfl
  generalize rowRes t p = r at *
  generalize findS t p = f at *
  generalize validS t = b1 at *
  obtain ⟨tk, tx, tc, ts⟩ := t
  obtain ⟨ft, b2⟩ := f
  obtain ⟨fk, fx, fc, fs⟩ := ft
  obtain ⟨⟨rk, rx, rc, rt⟩, re⟩ := r
  simp only [Tree.kind, Tree.text, Tree.cols, Tree.kids] at *
  clear hv htx hct hp
  generalize hW0 : (w.alloc (Obj.cells #[.int .i64 tk, .string tx, .int .i64 tc, .slice A ts.length cap] 24)).alloc (.cells #[.int .i64 0, .string ⟨#[]⟩, .int .i64 0, .slice none 0 0] 24) = W0
  have KB : Hid (∀ W, Below W0.heap.size W0 W → (W.cell? ⟨w.heap.size, 0, none⟩ = some (.int .i64 tk) ∧ W.cell? ⟨w.heap.size, 1, none⟩ = some (.string tx) ∧ W.cell? ⟨w.heap.size, 2, none⟩ = some (.int .i64 tc) ∧ W.cell? ⟨w.heap.size, 3, none⟩ = some (.slice A ts.length cap)) ∧
      (W.cell? ⟨w.heap.size + 1, 0, none⟩ = some (.int .i64 0) ∧ W.cell? ⟨w.heap.size + 1, 1, none⟩ = some (.string ⟨#[]⟩) ∧ W.cell? ⟨w.heap.size + 1, 2, none⟩ = some (.int .i64 0) ∧ W.cell? ⟨w.heap.size + 1, 3, none⟩ = some (.slice none 0 0)) ∧
      (W.frozen? ⟨w.heap.size + 1, 0, none⟩ = false ∧ W.frozen? ⟨w.heap.size + 1, 1, none⟩ = false ∧ W.frozen? ⟨w.heap.size + 1, 2, none⟩ = false ∧ W.frozen? ⟨w.heap.size + 1, 3, none⟩ = false) ∧ Below w.heap.size w W ∧ w.heap.size + 1 < W.heap.size) := by
    intro W hW
    have hz : W0.heap.size = w.heap.size + 1 + 1 := by rw [← hW0]; simp
    have hc := (bcell hW).1
    have hf := (bcell hW).2
    have hbb : Below w.heap.size w W0 := by rw [← hW0]; exact bl_alloc (below_allocR' _ _) _
    refine ⟨⟨(hc _ _ (by omega)).trans ?_, (hc _ _ (by omega)).trans ?_, (hc _ _ (by omega)).trans ?_, (hc _ _ (by omega)).trans ?_⟩, ⟨(hc _ _ (by omega)).trans ?_, (hc _ _ (by omega)).trans ?_, (hc _ _ (by omega)).trans ?_, (hc _ _ (by omega)).trans ?_⟩, ⟨(hf _ _ (by omega)).trans ?_, (hf _ _ (by omega)).trans ?_, (hf _ _ (by omega)).trans ?_, (hf _ _ (by omega)).trans ?_⟩, hbb.trans (hW.mono hbb.size), by have := hW.size; omega⟩
    all_goals (rw [← hW0]; first | exact na2_c _ _ _ _ _ _ rfl | exact na_c _ _ _ _ _ (by simp) | exact na_f _ _ _ _ _ (by simp))
  rcases b1 with _ | _
  · clear C2
    obtain ⟨⟨m0, m1, m2, m3⟩, ⟨c0, c1, c2, c3⟩, ⟨f0, f1, f2, f3⟩, hbw0, hz0⟩ := KB.out W0 (Below.refl _ _)
    have HBW0 := hid hbw0
    clear hbw0
    go_enter Tryz.func34, Tryz.ntmps34
    go_wp2_with fail
    refine (C1.out _ HBW0.out).mono ?_
    rintro e w1 ⟨rfl, hb1⟩
    clear m0 m1 m2 m3 c0 c1 c2 c3 f0 f1 f2 f3 hz0
    obtain ⟨⟨m0, m1, m2, m3⟩, hr1, ⟨f0, f1, f2, f3⟩, hbw1, hz1⟩ := KB.out w1 hb1
    have HBL1 := hid hb1
    have HBW1 := hid hbw1
    obtain ⟨c0, c1, c2, c3⟩ := hr1
    have HR1 := hid (And.intro c0 (And.intro c1 (And.intro c2 c3)))
    clear hb1 hbw1
    go_wp2_with fail
    generalize hW : (((w1.setCell _ (.int .i64 0)).setCell _ (.string ⟨#[]⟩)).setCell _ (.int .i64 0)).setCell _ (.slice none 0 0) = W
    obtain ⟨⟨r0, r1, r2, r3⟩, rz, rb, ro, _⟩ := four HR1.out.1 HR1.out.2.1 HR1.out.2.2.1 HR1.out.2.2.2 _ _ _ _ hW.symm
    have HB' := hid (rb w.heap.size w (by omega) HBW1.out)
    have HRO : Hid (∀ q : Addr, q.block ≠ w.heap.size + 1 → W.cell? q = (w1).cell? q) := ro
    clear hW ro rb
    refine bodyPost_ret (v := .tuple #[.agg #[.int .i64 0, .string ⟨#[]⟩, .int .i64 0, .slice none 0 0], .int .i64 1]) (by simp [results, Tryz.results34, go_sem, r0, r1, r2, r3]) rfl ?_
    have h := HR.out
    simp [zeroT] at h
    obtain ⟨⟨h1, h2, h3, h4⟩, h5⟩ := h
    rw [h1, h2, h3, h4, h5]
    exact ⟨_, rfl, SliceR.nil_ 0 (Nat.zero_le _) none, HB'.out⟩
  rcases b2 with _ | _
  · obtain ⟨⟨m0, m1, m2, m3⟩, ⟨c0, c1, c2, c3⟩, ⟨f0, f1, f2, f3⟩, hbw0, hz0⟩ := KB.out W0 (Below.refl _ _)
    have HBW0 := hid hbw0
    clear hbw0
    go_enter Tryz.func34, Tryz.ntmps34
    go_wp2_with fail
    refine (C1.out _ HBW0.out).mono ?_
    rintro e w1 ⟨rfl, hb1⟩
    clear m0 m1 m2 m3 c0 c1 c2 c3 f0 f1 f2 f3 hz0
    obtain ⟨⟨m0, m1, m2, m3⟩, hr1, ⟨f0, f1, f2, f3⟩, hbw1, hz1⟩ := KB.out w1 hb1
    have HBL1 := hid hb1
    have HBW1 := hid hbw1
    obtain ⟨c0, c1, c2, c3⟩ := hr1
    have HR1 := hid (And.intro c0 (And.intro c1 (And.intro c2 c3)))
    clear hb1 hbw1
    go_wp2_with fail
    refine (C2.out _ HBW1.out).mono ?_
    intro e w2 h
    obtain ⟨v2, rfl, hi2, hb2⟩ : ∃ v, e = .returned (.tuple #[.agg #[.int .i64 fk, .string fx, .int .i64 fc, v], .bool false]) ∧ SliceR treeE w2 (Lt w.heap.size) fs v ∧ Below w1.heap.size w1 w2 := h
    obtain ⟨A2, c2n, rfl⟩ := hi2.form
    have HI2 := hid hi2
    clear m0 m1 m2 m3 c0 c1 c2 c3 f0 f1 f2 f3 hi2
    have HBL2 := hid (HBL1.out.trans (hb2.mono HBL1.out.size))
    obtain ⟨⟨m0, m1, m2, m3⟩, hr2, ⟨f0, f1, f2, f3⟩, hbw2, hz2⟩ := KB.out w2 HBL2.out
    have HBW2 := hid hbw2
    obtain ⟨c0, c1, c2, c3⟩ := hr2
    have HR2 := hid (And.intro c0 (And.intro c1 (And.intro c2 c3)))
    clear hb2 hbw2
    go_wp2_with fail
    generalize hW : (((w2.setCell _ (.int .i64 0)).setCell _ (.string ⟨#[]⟩)).setCell _ (.int .i64 0)).setCell _ (.slice none 0 0) = W
    obtain ⟨⟨r0, r1, r2, r3⟩, rz, rb, ro, _⟩ := four HR2.out.1 HR2.out.2.1 HR2.out.2.2.1 HR2.out.2.2.2 _ _ _ _ hW.symm
    have HB' := hid (rb w.heap.size w (by omega) HBW2.out)
    have HRO : Hid (∀ q : Addr, q.block ≠ w.heap.size + 1 → W.cell? q = w2.cell? q) := ro
    have hzW : w.heap.size + 1 < W.heap.size := by rw [rz]; exact hz2
    replace r0 := old_c W (Obj.cells #[.int .i64 fk, .string fx, .int .i64 fc, .slice A2 fs.length c2n] 24) _ _ _ hzW r0
    replace r1 := old_c W (Obj.cells #[.int .i64 fk, .string fx, .int .i64 fc, .slice A2 fs.length c2n] 24) _ _ _ hzW r1
    replace r2 := old_c W (Obj.cells #[.int .i64 fk, .string fx, .int .i64 fc, .slice A2 fs.length c2n] 24) _ _ _ hzW r2
    replace r3 := old_c W (Obj.cells #[.int .i64 fk, .string fx, .int .i64 fc, .slice A2 fs.length c2n] 24) _ _ _ hzW r3
    clear hW ro rb
    refine bodyPost_ret (v := .tuple #[.agg #[.int .i64 0, .string ⟨#[]⟩, .int .i64 0, .slice none 0 0], .int .i64 8]) (by simp [results, Tryz.results34, go_sem, r0, r1, r2, r3]) rfl ?_
    have h := HR.out
    simp [zeroT] at h
    obtain ⟨⟨h1, h2, h3, h4⟩, h5⟩ := h
    rw [h1, h2, h3, h4, h5]
    exact ⟨_, rfl, SliceR.nil_ 0 (Nat.zero_le _) none, bl_alloc HB'.out _⟩
  · obtain ⟨⟨m0, m1, m2, m3⟩, ⟨c0, c1, c2, c3⟩, ⟨f0, f1, f2, f3⟩, hbw0, hz0⟩ := KB.out W0 (Below.refl _ _)
    have HBW0 := hid hbw0
    clear hbw0
    go_enter Tryz.func34, Tryz.ntmps34
    go_wp2_with fail
    refine (C1.out _ HBW0.out).mono ?_
    rintro e w1 ⟨rfl, hb1⟩
    clear m0 m1 m2 m3 c0 c1 c2 c3 f0 f1 f2 f3 hz0
    obtain ⟨⟨m0, m1, m2, m3⟩, hr1, ⟨f0, f1, f2, f3⟩, hbw1, hz1⟩ := KB.out w1 hb1
    have HBL1 := hid hb1
    have HBW1 := hid hbw1
    obtain ⟨c0, c1, c2, c3⟩ := hr1
    have HR1 := hid (And.intro c0 (And.intro c1 (And.intro c2 c3)))
    clear hb1 hbw1
    go_wp2_with fail
    refine (C2.out _ HBW1.out).mono ?_
    intro e w2 h
    obtain ⟨v2, rfl, hi2, hb2⟩ : ∃ v, e = .returned (.tuple #[.agg #[.int .i64 fk, .string fx, .int .i64 fc, v], .bool true]) ∧ SliceR treeE w2 (Lt w.heap.size) fs v ∧ Below w1.heap.size w1 w2 := h
    obtain ⟨A2, c2n, rfl⟩ := hi2.form
    have HI2 := hid hi2
    clear m0 m1 m2 m3 c0 c1 c2 c3 f0 f1 f2 f3 hi2
    have HBL2 := hid (HBL1.out.trans (hb2.mono HBL1.out.size))
    obtain ⟨⟨m0, m1, m2, m3⟩, hr2, ⟨f0, f1, f2, f3⟩, hbw2, hz2⟩ := KB.out w2 HBL2.out
    have HBW2 := hid hbw2
    obtain ⟨c0, c1, c2, c3⟩ := hr2
    have HR2 := hid (And.intro c0 (And.intro c1 (And.intro c2 c3)))
    clear hb2 hbw2
    go_wp2_with fail
    generalize hW : (((w2.setCell _ (.int .i64 fk)).setCell _ (.string fx)).setCell _ (.int .i64 fc)).setCell _ (.slice A2 fs.length c2n) = W
    obtain ⟨⟨r0, r1, r2, r3⟩, rz, rb, ro, _⟩ := four HR2.out.1 HR2.out.2.1 HR2.out.2.2.1 HR2.out.2.2.2 _ _ _ _ hW.symm
    have HB' := hid (rb w.heap.size w (by omega) HBW2.out)
    have HRO : Hid (∀ q : Addr, q.block ≠ w.heap.size + 1 → W.cell? q = w2.cell? q) := ro
    have hzW : w.heap.size + 1 < W.heap.size := by rw [rz]; exact hz2
    replace r0 := old_c W (Obj.cells #[.int .i64 fk, .string fx, .int .i64 fc, .slice A2 fs.length c2n] 24) _ _ _ hzW r0
    replace r1 := old_c W (Obj.cells #[.int .i64 fk, .string fx, .int .i64 fc, .slice A2 fs.length c2n] 24) _ _ _ hzW r1
    replace r2 := old_c W (Obj.cells #[.int .i64 fk, .string fx, .int .i64 fc, .slice A2 fs.length c2n] 24) _ _ _ hzW r2
    replace r3 := old_c W (Obj.cells #[.int .i64 fk, .string fx, .int .i64 fc, .slice A2 fs.length c2n] 24) _ _ _ hzW r3
    clear hW ro rb
    refine bodyPost_ret (v := .tuple #[.agg #[.int .i64 fk, .string fx, .int .i64 fc, .slice A2 fs.length c2n], .int .i64 0]) (by simp [results, Tryz.results34, go_sem, r0, r1, r2, r3]) rfl ?_
    have h := HR.out
    simp [zeroT] at h
    obtain ⟨⟨h1, h2, h3, h4⟩, h5⟩ := h
    rw [h1, h2, h3, h4, h5]
    exact ⟨_, rfl, HI2.out.keep (fun q hq => ((below_allocR' _ _).cell (Nat.lt_of_lt_of_le hq HB'.out.size)).trans (HRO.out q (Nat.ne_of_lt (Nat.lt_succ_of_lt hq)))) (fun _ h => h), bl_alloc HB'.out _⟩
end Go.Proofs.YtmahiejfniaahaaGreatDoor
set_option linter.unusedVariables false
set_option linter.unusedSimpArgs false
set_option maxRecDepth 100000
namespace Go.Proofs.YtmahiejfniaahaaGreatDoor
open Go.RowKit
theorem rowS_ok {w : World} {S : Nat → Prop} : (t : Tree) → (p : List Int) → (t' : Tree) → rowS t p = some t' → NodeOk t → (∃ v, SliceR treeE w S t.kids v) → NodeOk t' ∧ countS t' ≤ countS t
  | t, [], t', h, hok, _ => by
    simp [rowS] at h
    subst h
    exact ⟨hok, Nat.le_refl _⟩
  | t, [_], t', h, _, _ => by simp [rowS] at h
  | t, i :: k :: p, t', h, hok, hv => by
    rw [rowS] at h
    split at h
    · rename_i hi
      split at h
      · rename_i hk
        obtain ⟨v, A, cap, cs, rfl, _, _, _, hl⟩ := hv
        obtain ⟨c, _, hR, _⟩ := hl.at_ hi.2
        obtain ⟨v1, rfl, a1, a2, a3, hv1⟩ := treeR_mk.1 hR
        obtain ⟨A1, cap1, cs1, rfl, _, _, _, hl1⟩ := hv1
        obtain ⟨c1, _, hR1, _⟩ := hl1.at_ hk.2
        obtain ⟨v2, rfl, b1, b2, b3, hv2⟩ := treeR_mk.1 hR1
        obtain ⟨q1, q2⟩ := rowS_ok (w := w) (S := S) _ p t' h ⟨b1, b2, b3⟩ ⟨v2, hv2⟩
        refine ⟨q1, ?_⟩
        have e1 : countS t.kids[i.toNat] ≤ countS t := by
          rw [countS_kids t]
          have := countsS_take hi.2
          have := countsS_take_le t.kids (i.toNat + 1)
          omega
        have e2 : countS t.kids[i.toNat].kids[k.toNat] ≤ countS t.kids[i.toNat] := by
          rw [countS_kids t.kids[i.toNat]]
          have := countsS_take hk.2
          have := countsS_take_le t.kids[i.toNat].kids (k.toNat + 1)
          omega
        omega
      · cases h
    · cases h
def RowQ (w : World) (x : Tree) (er : Int) (e : Ending) (w' : World) : Prop :=
  ∃ v, e = .returned (.tuple #[.agg #[.int .i64 x.kind, .string x.text, .int .i64 x.cols, v], .int .i64 er]) ∧ SliceR treeE w' (fun k => w.heap.size ≤ k ∧ k < w'.heap.size) x.kids v ∧ Below w.heap.size w w'
set_option maxHeartbeats 2000000 in
theorem nRow_any (t : Tree) (p : List Int) (A Ap : Option Addr) (cap cp : Nat) (w : World) (hv : SliceR treeE w (Lt w.heap.size) t.kids (.slice A t.kids.length cap)) (hok : NodeOk t) (hct : countS t ≤ 900000) (hp : IntsR w (Lt w.heap.size) p (.slice Ap p.length cp)) :
    Calls Tryz.prog 97 #[.agg #[.int .i64 t.kind, .string t.text, .int .i64 t.cols, .slice A t.kids.length cap], .slice Ap p.length cp] w (RowQ w (rowRes t p).1 (rowRes t p).2) := by
  have C1 : Hid (∀ W, Below w.heap.size w W → Calls Tryz.prog 57 #[.agg #[.int .i64 t.kind, .string t.text, .int .i64 t.cols, .slice A t.kids.length cap]] W fun e w' => e = .returned (.bool (validS t)) ∧ Below W.heap.size W w') := fun W hW => nValid_any t A cap W (hv.below hW hW.size) hok.2.2
  have C2 : Hid (∀ W, Below w.heap.size w W → W.cell? ⟨w.heap.size, 0, none⟩ = some (.int .i64 t.kind) ∧ W.cell? ⟨w.heap.size, 1, none⟩ = some (.string t.text) ∧ W.cell? ⟨w.heap.size, 2, none⟩ = some (.int .i64 t.cols) ∧ W.cell? ⟨w.heap.size, 3, none⟩ = some (.slice A t.kids.length cap) → w.heap.size < W.heap.size →
      Calls Tryz.prog 125 #[.pointer (some ⟨w.heap.size, 0, none⟩), .slice Ap p.length cp] W (FindP W (rowS t p))) := fun W hW hc hz => by
    obtain ⟨_, _, rs, hq, h1, h2, h3, h4⟩ := hv.below hW hW.size
    cases hq
    exact nodeFind_any t p w.heap.size 0 A cap rs _ W ⟨by simpa using hc, hz, hok.2.2, h1, h2, h3, h4⟩ (hp.below hW hW.size)
  have C3 : Hid (∀ t', rowS t p = some t' → NodeOk t' ∧ countS t' ≤ 1000000) := fun t' h => by
    obtain ⟨h1, h2⟩ := rowS_ok t p t' h hok ⟨_, hv⟩
    exact ⟨h1, by omega⟩
  have HR : Hid (rowRes t p = if validS t = false then (zeroT, (1 : Int)) else match rowS t p with | none => (zeroT, (8 : Int)) | some x => (x, (0 : Int))) := by
    show rowRes t p = _
    rw [rowRes, find_row]
    cases validS t <;> cases (findS t p).2 <;> simp
  generalize rowRes t p = r at *
  generalize rowS t p = f at *
  generalize validS t = b1 at *
  obtain ⟨tk, tx, tc, ts⟩ := t
  obtain ⟨⟨rk, rx, rc, rt⟩, re⟩ := r
  simp only [Tree.kind, Tree.text, Tree.cols, Tree.kids] at *
  clear hv hok hct hp
  generalize hW0 : (w.alloc (Obj.cells #[.int .i64 tk, .string tx, .int .i64 tc, .slice A ts.length cap] 24)).alloc (.cells #[.int .i64 0, .string ⟨#[]⟩, .int .i64 0, .slice none 0 0] 24) = W0
  have KB : Hid (∀ W, Below W0.heap.size W0 W → (W.cell? ⟨w.heap.size, 0, none⟩ = some (.int .i64 tk) ∧ W.cell? ⟨w.heap.size, 1, none⟩ = some (.string tx) ∧ W.cell? ⟨w.heap.size, 2, none⟩ = some (.int .i64 tc) ∧ W.cell? ⟨w.heap.size, 3, none⟩ = some (.slice A ts.length cap)) ∧
      (W.cell? ⟨w.heap.size + 1, 0, none⟩ = some (.int .i64 0) ∧ W.cell? ⟨w.heap.size + 1, 1, none⟩ = some (.string ⟨#[]⟩) ∧ W.cell? ⟨w.heap.size + 1, 2, none⟩ = some (.int .i64 0) ∧ W.cell? ⟨w.heap.size + 1, 3, none⟩ = some (.slice none 0 0)) ∧
      (W.frozen? ⟨w.heap.size + 1, 0, none⟩ = false ∧ W.frozen? ⟨w.heap.size + 1, 1, none⟩ = false ∧ W.frozen? ⟨w.heap.size + 1, 2, none⟩ = false ∧ W.frozen? ⟨w.heap.size + 1, 3, none⟩ = false) ∧ Below w.heap.size w W ∧ w.heap.size + 1 < W.heap.size) := by
    intro W hW
    have hz : W0.heap.size = w.heap.size + 1 + 1 := by rw [← hW0]; simp
    have hc := (bcell hW).1
    have hf := (bcell hW).2
    have hbb : Below w.heap.size w W0 := by rw [← hW0]; exact bl_alloc (below_allocR' _ _) _
    refine ⟨⟨(hc _ _ (by omega)).trans ?_, (hc _ _ (by omega)).trans ?_, (hc _ _ (by omega)).trans ?_, (hc _ _ (by omega)).trans ?_⟩, ⟨(hc _ _ (by omega)).trans ?_, (hc _ _ (by omega)).trans ?_, (hc _ _ (by omega)).trans ?_, (hc _ _ (by omega)).trans ?_⟩, ⟨(hf _ _ (by omega)).trans ?_, (hf _ _ (by omega)).trans ?_, (hf _ _ (by omega)).trans ?_, (hf _ _ (by omega)).trans ?_⟩, hbb.trans (hW.mono hbb.size), by have := hW.size; omega⟩
    all_goals (rw [← hW0]; first | exact na2_c _ _ _ _ _ _ rfl | exact na_c _ _ _ _ _ (by simp) | exact na_f _ _ _ _ _ (by simp))
  rcases b1 with _ | _
  · clear C2 C3
    obtain ⟨⟨m0, m1, m2, m3⟩, ⟨c0, c1, c2, c3⟩, ⟨f0, f1, f2, f3⟩, hbw0, hz0⟩ := KB.out W0 (Below.refl _ _)
    have HBW0 := hid hbw0
    clear hbw0
    go_enter Tryz.func97, Tryz.ntmps97
    go_wp2_with fail
    refine (C1.out _ HBW0.out).mono ?_
    rintro e w1 ⟨rfl, hb1⟩
    clear m0 m1 m2 m3 c0 c1 c2 c3 f0 f1 f2 f3 hz0
    obtain ⟨⟨m0, m1, m2, m3⟩, hr1, ⟨f0, f1, f2, f3⟩, hbw1, hz1⟩ := KB.out w1 hb1
    have HBL1 := hid hb1
    have HBW1 := hid hbw1
    obtain ⟨c0, c1, c2, c3⟩ := hr1
    have HR1 := hid (And.intro c0 (And.intro c1 (And.intro c2 c3)))
    clear hb1 hbw1
    go_wp2_with fail
    generalize hW : (((w1.setCell _ (.int .i64 0)).setCell _ (.string ⟨#[]⟩)).setCell _ (.int .i64 0)).setCell _ (.slice none 0 0) = W
    obtain ⟨⟨r0, r1, r2, r3⟩, rz, rb, ro, _⟩ := four HR1.out.1 HR1.out.2.1 HR1.out.2.2.1 HR1.out.2.2.2 _ _ _ _ hW.symm
    have HB' := hid (rb w.heap.size w (by omega) HBW1.out)
    have HRO : Hid (∀ q : Addr, q.block ≠ w.heap.size + 1 → W.cell? q = (w1).cell? q) := ro
    clear hW ro rb
    refine bodyPost_ret (v := .tuple #[.agg #[.int .i64 0, .string ⟨#[]⟩, .int .i64 0, .slice none 0 0], .int .i64 1]) (by simp [results, Tryz.results97, go_sem, r0, r1, r2, r3]) rfl ?_
    have h := HR.out
    simp [zeroT] at h
    obtain ⟨⟨h1, h2, h3, h4⟩, h5⟩ := h
    refine ⟨.slice none 0 0, by rw [h5]; simp only [h1, h2, h3]; rfl, by simp only [h4]; exact SliceR.nil_ 0 (Nat.zero_le _) none, HB'.out⟩
  rcases f with _ | t'
  · obtain ⟨⟨m0, m1, m2, m3⟩, ⟨c0, c1, c2, c3⟩, ⟨f0, f1, f2, f3⟩, hbw0, hz0⟩ := KB.out W0 (Below.refl _ _)
    have HBW0 := hid hbw0
    clear hbw0
    go_enter Tryz.func97, Tryz.ntmps97
    go_wp2_with fail
    refine (C1.out _ HBW0.out).mono ?_
    rintro e w1 ⟨rfl, hb1⟩
    clear m0 m1 m2 m3 c0 c1 c2 c3 f0 f1 f2 f3 hz0
    obtain ⟨⟨m0, m1, m2, m3⟩, hr1, ⟨f0, f1, f2, f3⟩, hbw1, hz1⟩ := KB.out w1 hb1
    have HBL1 := hid hb1
    have HBW1 := hid hbw1
    obtain ⟨c0, c1, c2, c3⟩ := hr1
    have HR1 := hid (And.intro c0 (And.intro c1 (And.intro c2 c3)))
    clear hb1 hbw1
    go_wp2_with fail
    refine (C2.out _ HBW1.out ⟨m0, m1, m2, m3⟩ (by omega)).mono ?_
    rintro e w2 ⟨⟨n2, rfl⟩, ⟨_, q2, rfl⟩ | ⟨t', g, o, A', cap', rs, h, _⟩⟩
    case inr => cases h
    obtain ⟨w2, hw2⟩ : ∃ w2, w2 = w1.drewN n2 := ⟨_, rfl⟩
    rw [← hw2]
    have hb2 : Below w1.heap.size w1 w2 := by rw [hw2]; exact below_dn (Below.refl _ _) n2
    clear m0 m1 m2 m3 c0 c1 c2 c3 f0 f1 f2 f3 hw2 hz1
    have HBL2 := hid (HBL1.out.trans (hb2.mono HBL1.out.size))
    obtain ⟨⟨m0, m1, m2, m3⟩, hr2, ⟨f0, f1, f2, f3⟩, hbw2, hz2⟩ := KB.out w2 HBL2.out
    have HBW2 := hid hbw2
    obtain ⟨c0, c1, c2, c3⟩ := hr2
    have HR2 := hid (And.intro c0 (And.intro c1 (And.intro c2 c3)))
    clear hb2 hbw2
    go_wp2_with fail
    generalize hW : (((w2.setCell _ (.int .i64 0)).setCell _ (.string ⟨#[]⟩)).setCell _ (.int .i64 0)).setCell _ (.slice none 0 0) = W
    obtain ⟨⟨r0, r1, r2, r3⟩, rz, rb, ro, _⟩ := four HR2.out.1 HR2.out.2.1 HR2.out.2.2.1 HR2.out.2.2.2 _ _ _ _ hW.symm
    have HB' := hid (rb w.heap.size w (by omega) HBW2.out)
    have HRO : Hid (∀ q : Addr, q.block ≠ w.heap.size + 1 → W.cell? q = w2.cell? q) := ro
    clear hW ro rb
    refine bodyPost_ret (v := .tuple #[.agg #[.int .i64 0, .string ⟨#[]⟩, .int .i64 0, .slice none 0 0], .int .i64 8]) (by simp [results, Tryz.results97, go_sem, r0, r1, r2, r3]) rfl ?_
    have h := HR.out
    simp [zeroT] at h
    obtain ⟨⟨h1, h2, h3, h4⟩, h5⟩ := h
    refine ⟨.slice none 0 0, by rw [h5]; simp only [h1, h2, h3]; rfl, by simp only [h4]; exact SliceR.nil_ 0 (Nat.zero_le _) none, HB'.out⟩
  · obtain ⟨⟨m0, m1, m2, m3⟩, ⟨c0, c1, c2, c3⟩, ⟨f0, f1, f2, f3⟩, hbw0, hz0⟩ := KB.out W0 (Below.refl _ _)
    have HBW0 := hid hbw0
    clear hbw0
    go_enter Tryz.func97, Tryz.ntmps97
    go_wp2_with fail
    refine (C1.out _ HBW0.out).mono ?_
    rintro e w1 ⟨rfl, hb1⟩
    clear m0 m1 m2 m3 c0 c1 c2 c3 f0 f1 f2 f3 hz0
    obtain ⟨⟨m0, m1, m2, m3⟩, hr1, ⟨f0, f1, f2, f3⟩, hbw1, hz1⟩ := KB.out w1 hb1
    have HBL1 := hid hb1
    have HBW1 := hid hbw1
    obtain ⟨c0, c1, c2, c3⟩ := hr1
    have HR1 := hid (And.intro c0 (And.intro c1 (And.intro c2 c3)))
    clear hb1 hbw1
    go_wp2_with fail
    refine (C2.out _ HBW1.out ⟨m0, m1, m2, m3⟩ (by omega)).mono ?_
    rintro e w2 ⟨⟨n2, rfl⟩, ⟨h, _⟩ | ⟨t'', g, o, A', cap', rs, h, rfl, ⟨d0, d1, d2, d3⟩, hgl, htx, hk1, hk2, hk3, hk4⟩⟩
    case inl => cases h
    cases h
    obtain ⟨w2, hw2⟩ : ∃ w2, w2 = w1.drewN n2 := ⟨_, rfl⟩
    rw [← hw2]
    have hb2 : Below w1.heap.size w1 w2 := by rw [hw2]; exact below_dn (Below.refl _ _) n2
    have hv2 : SliceR treeE w2 (Lt w2.heap.size) t'.kids (.slice A' t'.kids.length cap') := SliceR.below (B := w1.heap.size) ⟨A', cap', rs, rfl, hk1, hk2, hk3, hk4⟩ hb2 hb2.size
    replace d0 : w2.cell? ⟨g, o, none⟩ = some (.int .i64 t'.kind) := by rw [hw2]; exact d0
    replace d1 : w2.cell? ⟨g, o + 1, none⟩ = some (.string t'.text) := by rw [hw2]; exact d1
    replace d2 : w2.cell? ⟨g, o + 2, none⟩ = some (.int .i64 t'.cols) := by rw [hw2]; exact d2
    replace d3 : w2.cell? ⟨g, o + 3, none⟩ = some (.slice A' t'.kids.length cap') := by rw [hw2]; exact d3
    clear m0 m1 m2 m3 c0 c1 c2 c3 f0 f1 f2 f3 hw2 hz1 hk1 hk2 hk3 hk4 hgl htx
    have HBL2 := hid (HBL1.out.trans (hb2.mono HBL1.out.size))
    clear hb2
    go_wp2_with fail
    refine (deepNode_any t' A' cap' w2 hv2 (C3.out _ rfl).1 (C3.out _ rfl).2).mono ?_
    intro e w3 h3
    obtain ⟨v3, rfl, hr3, hb3⟩ := h3
    obtain ⟨A3, c3n, rfl⟩ := hr3.form
    have HR3 := hid hr3
    have HBL3 := hid (HBL2.out.trans (hb3.mono HBL2.out.size))
    obtain ⟨hm3, hr3', ⟨f0, f1, f2, f3⟩, hbw3, hz3⟩ := KB.out w3 HBL3.out
    have HBW3 := hid hbw3
    obtain ⟨c0, c1, c2, c3⟩ := hr3'
    have HRR := hid (And.intro c0 (And.intro c1 (And.intro c2 c3)))
    have HZ2 : Hid (w.heap.size + 1 < w2.heap.size) := by obtain ⟨_, _, _, _, h⟩ := KB.out w2 HBL2.out; exact h
    clear hb3 hbw3 hm3 hr3 d0 d1 d2 d3 hv2
    go_wp2_with fail
    generalize hW : (((w3.setCell _ (.int .i64 t'.kind)).setCell _ (.string t'.text)).setCell _ (.int .i64 t'.cols)).setCell _ (.slice A3 t'.kids.length c3n) = W
    obtain ⟨⟨r0, r1, r2, r3⟩, rz, rb, ro, _⟩ := four HRR.out.1 HRR.out.2.1 HRR.out.2.2.1 HRR.out.2.2.2 _ _ _ _ hW.symm
    have HB' := hid (rb w.heap.size w (by omega) HBW3.out)
    have HRO : Hid (∀ q : Addr, q.block ≠ w.heap.size + 1 → W.cell? q = w3.cell? q) := ro
    clear hW ro rb
    refine bodyPost_ret (v := .tuple #[.agg #[.int .i64 t'.kind, .string t'.text, .int .i64 t'.cols, .slice A3 t'.kids.length c3n], .int .i64 0]) (by simp [results, Tryz.results97, go_sem, r0, r1, r2, r3]) rfl ?_
    have h := HR.out
    simp at h
    obtain ⟨rfl, rfl⟩ := h
    refine ⟨_, rfl, HR3.out.keep (fun q hq => HRO.out q (Nat.ne_of_gt (Nat.lt_of_lt_of_le HZ2.out hq.1))) (fun q hq => ⟨by have := HZ2.out; omega, by rw [rz]; exact hq.2⟩), HB'.out⟩
end Go.Proofs.YtmahiejfniaahaaGreatDoor
