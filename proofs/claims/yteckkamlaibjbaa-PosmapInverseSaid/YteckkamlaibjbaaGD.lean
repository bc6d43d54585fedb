/- Texts put together: RowR, Cnt12. -/
import Derived.Test.YteckkamlaibjbaaGA
import Derived.Test.YteckkamlaibjbaaNode8
import Derived.Test.YteckkamlaibjbaaGC
/- ref09.Row; the items lie in memory of any set S. -/
set_option linter.unusedVariables false
set_option linter.unusedSimpArgs false
set_option maxRecDepth 100000
namespace Go.Proofs.Yteckkamlaibjbaa
open Go.RowKit

theorem below_allocR' (w : World) (o : Obj) : Below w.heap.size w (w.alloc o) := blA w o
theorem bl_alloc {W X : World} (h : Below W.heap.size W X) (o : Obj) : Below W.heap.size W (X.alloc o) := blAlloc h o
theorem na_c (W : World) (arr : Array Value) (T : TypeId) (b o : Nat) (hb : b = W.heap.size) : (W.alloc (.cells arr T)).cell? ⟨b, o, none⟩ = arr[o]? := newC W arr T b o hb
theorem na_f (W : World) (arr : Array Value) (T : TypeId) (b o : Nat) (hb : b = W.heap.size) : (W.alloc (.cells arr T)).frozen? ⟨b, o, none⟩ = false := newF W arr T b o hb
theorem old_c (W : World) (B : Obj) (b o : Nat) (x : Option Value) (hb : b < W.heap.size) (h : W.cell? ⟨b, o, none⟩ = x) : (W.alloc B).cell? ⟨b, o, none⟩ = x := oldC W B b o x hb h
theorem na2_c (W : World) (arr : Array Value) (T : TypeId) (B : Obj) (b o : Nat) (hb : b = W.heap.size) : ((W.alloc (.cells arr T)).alloc B).cell? ⟨b, o, none⟩ = arr[o]? := by
  rw [(below_allocR' (W.alloc (.cells arr T)) B).cell (by simp; omega)]; exact na_c W arr T b o hb
def rowRes (t : Tree) (p : List Int) : Tree × Int := if validS t = false then (zeroT, 1) else if (findS t p).2 = false then (zeroT, 8) else ((findS t p).1, 0)
/-- A tree (its items in memory of the set S) and an error as results. -/
def RowP (S : Nat → Prop) (w : World) (k : Int) (x : ByteArray) (c : Int) (ts : List Tree) (er : Int) (e : Ending) (w' : World) : Prop :=
  ∃ v, e = .returned (.tuple #[.agg #[.int .i64 k, .string x, .int .i64 c, v], .int .i64 er]) ∧ SliceR treeE w' S ts v ∧ Below w.heap.size w w'

set_option maxHeartbeats 2000000 in
theorem rRow_any (t : Tree) (p : List Int) (A Ap : Option Addr) (cap cp : Nat) (w : World) (S : Nat → Prop) (hS : ∀ k, S k → k < w.heap.size) (hv : SliceR treeE w S t.kids (.slice A t.kids.length cap)) (htx : t.text.size ≤ maxLen) (hct : countS t ≤ 900000) (hp : IntsR w (Lt w.heap.size) p (.slice Ap p.length cp)) :
    Calls Try.prog 27 #[.agg #[.int .i64 t.kind, .string t.text, .int .i64 t.cols, .slice A t.kids.length cap], .slice Ap p.length cp] w (RowP S w (rowRes t p).1.kind (rowRes t p).1.text (rowRes t p).1.cols (rowRes t p).1.kids (rowRes t p).2) := by
  have C1 : Hid (∀ W, Below w.heap.size w W → Calls Try.prog 32 #[.agg #[.int .i64 t.kind, .string t.text, .int .i64 t.cols, .slice A t.kids.length cap]] W fun e w' => e = .returned (.bool (validS t)) ∧ Below W.heap.size W w') := fun W hW => valid_any t A cap W (hv.keep (fun q hq => hW.cell (hS _ hq)) (fun q hq => Nat.lt_of_lt_of_le (hS _ hq) hW.size)) htx (by omega)
  have C2 : Hid (∀ W, Below w.heap.size w W → Calls Try.prog 46 #[.agg #[.int .i64 t.kind, .string t.text, .int .i64 t.cols, .slice A t.kids.length cap], .slice Ap p.length cp] W (FindPost S W (findS t p))) := fun W hW => find_any t p W _ _ S (fun k h => Nat.lt_of_lt_of_le (hS _ h) hW.size) (hv.keep (fun q hq => hW.cell (hS _ hq)) (fun _ h => h)) (hp.below hW hW.size)
  have HR : Hid (rowRes t p = if validS t = false then (zeroT, 1) else if (findS t p).2 = false then (zeroT, 8) else ((findS t p).1, 0)) := rfl
  generalize rowRes t p = r at *
  generalize findS t p = f at *
  generalize validS t = b1 at *
  obtain ⟨tk, tx, tc, ts⟩ := t
  obtain ⟨ft, b2⟩ := f
  obtain ⟨fk, fx, fc, fs⟩ := ft
  obtain ⟨⟨rk, rx, rc, rt⟩, re⟩ := r
  simp only [Tree.kind, Tree.text, Tree.cols, Tree.kids] at *
  have HSS := hid hS
  clear hS hv htx hct hp
  generalize hW0 : (w.alloc (Obj.cells #[.int .i64 tk, .string tx, .int .i64 tc, .slice A ts.length cap] 24)).alloc (.cells #[.int .i64 0, .string ⟨#[]⟩, .int .i64 0, .slice none 0 0] 24) = W0
  have KB : Hid (∀ W, Below W0.heap.size W0 W → (W.cell? ⟨w.heap.size, 0, none⟩ = some (.int .i64 tk) ∧ W.cell? ⟨w.heap.size, 1, none⟩ = some (.string tx) ∧ W.cell? ⟨w.heap.size, 2, none⟩ = some (.int .i64 tc) ∧ W.cell? ⟨w.heap.size, 3, none⟩ = some (.slice A ts.length cap)) ∧
      (W.cell? ⟨w.heap.size + 1, 0, none⟩ = some (.int .i64 0) ∧ W.cell? ⟨w.heap.size + 1, 1, none⟩ = some (.string ⟨#[]⟩) ∧ W.cell? ⟨w.heap.size + 1, 2, none⟩ = some (.int .i64 0) ∧ W.cell? ⟨w.heap.size + 1, 3, none⟩ = some (.slice none 0 0)) ∧
      (W.frozen? ⟨w.heap.size + 1, 0, none⟩ = false ∧ W.frozen? ⟨w.heap.size + 1, 1, none⟩ = false ∧ W.frozen? ⟨w.heap.size + 1, 2, none⟩ = false ∧ W.frozen? ⟨w.heap.size + 1, 3, none⟩ = false) ∧ Below w.heap.size w W ∧ w.heap.size + 1 < W.heap.size) := by
    intro W hW
    have hz : W0.heap.size = w.heap.size + 1 + 1 := by rw [← hW0]; simp
    have hc := (bcell hW).1
    have hf := (bcell hW).2
    have hbb : Below w.heap.size w W0 := by rw [← hW0]; exact bl_alloc (below_allocR' _ _) _
    refine ⟨⟨(hc _ _ (by omega)).trans ?_, (hc _ _ (by omega)).trans ?_, (hc _ _ (by omega)).trans ?_, (hc _ _ (by omega)).trans ?_⟩, ⟨(hc _ _ (by omega)).trans ?_, (hc _ _ (by omega)).trans ?_, (hc _ _ (by omega)).trans ?_, (hc _ _ (by omega)).trans ?_⟩, ⟨(hf _ _ (by omega)).trans ?_, (hf _ _ (by omega)).trans ?_, (hf _ _ (by omega)).trans ?_, (hf _ _ (by omega)).trans ?_⟩, hbb.trans (hW.mono hbb.size), by have := hW.size; omega⟩
    all_goals (rw [← hW0]; first | exact na2_c _ _ _ _ _ _ rfl | exact na_c _ _ _ _ _ (by simp) | exact na_f _ _ _ _ _ (by simp))
  rcases b1 with _ | _
  · clear C2
    obtain ⟨⟨m0, m1, m2, m3⟩, ⟨c0, c1, c2, c3⟩, ⟨f0, f1, f2, f3⟩, hbw0, hz0⟩ := KB.out W0 (Below.refl _ _)
    have HBW0 := hid hbw0
    clear hbw0
    go_enter Try.func27, Try.ntmps27
    go_wp2_with fail
    refine (C1.out _ HBW0.out).mono ?_
    rintro e w1 ⟨rfl, hb1⟩
    clear m0 m1 m2 m3 c0 c1 c2 c3 f0 f1 f2 f3 hz0
    obtain ⟨⟨m0, m1, m2, m3⟩, hr1, ⟨f0, f1, f2, f3⟩, hbw1, hz1⟩ := KB.out w1 hb1
    have HBL1 := hid hb1
    have HBW1 := hid hbw1
    obtain ⟨c0, c1, c2, c3⟩ := hr1
    have HR1 := hid (And.intro c0 (And.intro c1 (And.intro c2 c3)))
    clear hb1 hbw1
    go_wp2_with fail
    generalize hW : (((w1.setCell _ (.int .i64 0)).setCell _ (.string ⟨#[]⟩)).setCell _ (.int .i64 0)).setCell _ (.slice none 0 0) = W
    obtain ⟨⟨r0, r1, r2, r3⟩, rz, rb, ro, _⟩ := four HR1.out.1 HR1.out.2.1 HR1.out.2.2.1 HR1.out.2.2.2 _ _ _ _ hW.symm
    have HB' := hid (rb w.heap.size w (by omega) HBW1.out)
    have HRO : Hid (∀ q : Addr, q.block ≠ w.heap.size + 1 → W.cell? q = (w1).cell? q) := ro
    clear hW ro rb
    refine bodyPost_ret (v := .tuple #[.agg #[.int .i64 0, .string ⟨#[]⟩, .int .i64 0, .slice none 0 0], .int .i64 1]) (by simp [results, Try.results27, go_sem, r0, r1, r2, r3]) rfl ?_
    have h := HR.out
    simp [zeroT] at h
    obtain ⟨⟨h1, h2, h3, h4⟩, h5⟩ := h
    rw [h1, h2, h3, h4, h5]
    exact ⟨_, rfl, SliceR.nil_ 0 (Nat.zero_le _) none, HB'.out⟩
  rcases b2 with _ | _
  · obtain ⟨⟨m0, m1, m2, m3⟩, ⟨c0, c1, c2, c3⟩, ⟨f0, f1, f2, f3⟩, hbw0, hz0⟩ := KB.out W0 (Below.refl _ _)
    have HBW0 := hid hbw0
    clear hbw0
    go_enter Try.func27, Try.ntmps27
    go_wp2_with fail
    refine (C1.out _ HBW0.out).mono ?_
    rintro e w1 ⟨rfl, hb1⟩
    clear m0 m1 m2 m3 c0 c1 c2 c3 f0 f1 f2 f3 hz0
    obtain ⟨⟨m0, m1, m2, m3⟩, hr1, ⟨f0, f1, f2, f3⟩, hbw1, hz1⟩ := KB.out w1 hb1
    have HBL1 := hid hb1
    have HBW1 := hid hbw1
    obtain ⟨c0, c1, c2, c3⟩ := hr1
    have HR1 := hid (And.intro c0 (And.intro c1 (And.intro c2 c3)))
    clear hb1 hbw1
    go_wp2_with fail
    refine (C2.out _ HBW1.out).mono ?_
    intro e w2 h
    obtain ⟨v2, rfl, hi2, hb2⟩ : ∃ v, e = .returned (.tuple #[.agg #[.int .i64 fk, .string fx, .int .i64 fc, v], .bool false]) ∧ SliceR treeE w2 S fs v ∧ Below w1.heap.size w1 w2 := h
    obtain ⟨A2, c2n, rfl⟩ := hi2.form
    have HI2 := hid hi2
    clear m0 m1 m2 m3 c0 c1 c2 c3 f0 f1 f2 f3 hi2
    have HBL2 := hid (HBL1.out.trans (hb2.mono HBL1.out.size))
    obtain ⟨⟨m0, m1, m2, m3⟩, hr2, ⟨f0, f1, f2, f3⟩, hbw2, hz2⟩ := KB.out w2 HBL2.out
    have HBW2 := hid hbw2
    obtain ⟨c0, c1, c2, c3⟩ := hr2
    have HR2 := hid (And.intro c0 (And.intro c1 (And.intro c2 c3)))
    clear hb2 hbw2
    go_wp2_with fail
    generalize hW : (((w2.setCell _ (.int .i64 0)).setCell _ (.string ⟨#[]⟩)).setCell _ (.int .i64 0)).setCell _ (.slice none 0 0) = W
    obtain ⟨⟨r0, r1, r2, r3⟩, rz, rb, ro, _⟩ := four HR2.out.1 HR2.out.2.1 HR2.out.2.2.1 HR2.out.2.2.2 _ _ _ _ hW.symm
    have HB' := hid (rb w.heap.size w (by omega) HBW2.out)
    have HRO : Hid (∀ q : Addr, q.block ≠ w.heap.size + 1 → W.cell? q = w2.cell? q) := ro
    have hzW : w.heap.size + 1 < W.heap.size := by rw [rz]; exact hz2
    replace r0 := old_c W (Obj.cells #[.int .i64 fk, .string fx, .int .i64 fc, .slice A2 fs.length c2n] 24) _ _ _ hzW r0
    replace r1 := old_c W (Obj.cells #[.int .i64 fk, .string fx, .int .i64 fc, .slice A2 fs.length c2n] 24) _ _ _ hzW r1
    replace r2 := old_c W (Obj.cells #[.int .i64 fk, .string fx, .int .i64 fc, .slice A2 fs.length c2n] 24) _ _ _ hzW r2
    replace r3 := old_c W (Obj.cells #[.int .i64 fk, .string fx, .int .i64 fc, .slice A2 fs.length c2n] 24) _ _ _ hzW r3
    clear hW ro rb
    refine bodyPost_ret (v := .tuple #[.agg #[.int .i64 0, .string ⟨#[]⟩, .int .i64 0, .slice none 0 0], .int .i64 8]) (by simp [results, Try.results27, go_sem, r0, r1, r2, r3]) rfl ?_
    have h := HR.out
    simp [zeroT] at h
    obtain ⟨⟨h1, h2, h3, h4⟩, h5⟩ := h
    rw [h1, h2, h3, h4, h5]
    exact ⟨_, rfl, SliceR.nil_ 0 (Nat.zero_le _) none, bl_alloc HB'.out _⟩
  · obtain ⟨⟨m0, m1, m2, m3⟩, ⟨c0, c1, c2, c3⟩, ⟨f0, f1, f2, f3⟩, hbw0, hz0⟩ := KB.out W0 (Below.refl _ _)
    have HBW0 := hid hbw0
    clear hbw0
    go_enter Try.func27, Try.ntmps27
    go_wp2_with fail
    refine (C1.out _ HBW0.out).mono ?_
    rintro e w1 ⟨rfl, hb1⟩
    clear m0 m1 m2 m3 c0 c1 c2 c3 f0 f1 f2 f3 hz0
    obtain ⟨⟨m0, m1, m2, m3⟩, hr1, ⟨f0, f1, f2, f3⟩, hbw1, hz1⟩ := KB.out w1 hb1
    have HBL1 := hid hb1
    have HBW1 := hid hbw1
    obtain ⟨c0, c1, c2, c3⟩ := hr1
    have HR1 := hid (And.intro c0 (And.intro c1 (And.intro c2 c3)))
    clear hb1 hbw1
    go_wp2_with fail
    refine (C2.out _ HBW1.out).mono ?_
    intro e w2 h
    obtain ⟨v2, rfl, hi2, hb2⟩ : ∃ v, e = .returned (.tuple #[.agg #[.int .i64 fk, .string fx, .int .i64 fc, v], .bool true]) ∧ SliceR treeE w2 S fs v ∧ Below w1.heap.size w1 w2 := h
    obtain ⟨A2, c2n, rfl⟩ := hi2.form
    have HI2 := hid hi2
    clear m0 m1 m2 m3 c0 c1 c2 c3 f0 f1 f2 f3 hi2
    have HBL2 := hid (HBL1.out.trans (hb2.mono HBL1.out.size))
    obtain ⟨⟨m0, m1, m2, m3⟩, hr2, ⟨f0, f1, f2, f3⟩, hbw2, hz2⟩ := KB.out w2 HBL2.out
    have HBW2 := hid hbw2
    obtain ⟨c0, c1, c2, c3⟩ := hr2
    have HR2 := hid (And.intro c0 (And.intro c1 (And.intro c2 c3)))
    clear hb2 hbw2
    go_wp2_with fail
    generalize hW : (((w2.setCell _ (.int .i64 fk)).setCell _ (.string fx)).setCell _ (.int .i64 fc)).setCell _ (.slice A2 fs.length c2n) = W
    obtain ⟨⟨r0, r1, r2, r3⟩, rz, rb, ro, _⟩ := four HR2.out.1 HR2.out.2.1 HR2.out.2.2.1 HR2.out.2.2.2 _ _ _ _ hW.symm
    have HB' := hid (rb w.heap.size w (by omega) HBW2.out)
    have HRO : Hid (∀ q : Addr, q.block ≠ w.heap.size + 1 → W.cell? q = w2.cell? q) := ro
    have hzW : w.heap.size + 1 < W.heap.size := by rw [rz]; exact hz2
    replace r0 := old_c W (Obj.cells #[.int .i64 fk, .string fx, .int .i64 fc, .slice A2 fs.length c2n] 24) _ _ _ hzW r0
    replace r1 := old_c W (Obj.cells #[.int .i64 fk, .string fx, .int .i64 fc, .slice A2 fs.length c2n] 24) _ _ _ hzW r1
    replace r2 := old_c W (Obj.cells #[.int .i64 fk, .string fx, .int .i64 fc, .slice A2 fs.length c2n] 24) _ _ _ hzW r2
    replace r3 := old_c W (Obj.cells #[.int .i64 fk, .string fx, .int .i64 fc, .slice A2 fs.length c2n] 24) _ _ _ hzW r3
    clear hW ro rb
    refine bodyPost_ret (v := .tuple #[.agg #[.int .i64 fk, .string fx, .int .i64 fc, .slice A2 fs.length c2n], .int .i64 0]) (by simp [results, Try.results27, go_sem, r0, r1, r2, r3]) rfl ?_
    have h := HR.out
    simp [zeroT] at h
    obtain ⟨⟨h1, h2, h3, h4⟩, h5⟩ := h
    rw [h1, h2, h3, h4, h5]
    exact ⟨_, rfl, HI2.out.keep (fun q hq => ((below_allocR' _ _).cell (Nat.lt_of_lt_of_le (HSS.out _ hq) HB'.out.size)).trans (HRO.out q (Nat.ne_of_lt (Nat.lt_succ_of_lt (HSS.out _ hq))))) (fun _ h => h), bl_alloc HB'.out _⟩
end Go.Proofs.Yteckkamlaibjbaa
/- Plain: the number of nodes behind an operation. -/
set_option linter.unusedVariables false
set_option linter.unusedSimpArgs false
namespace Go.Proofs.Yteckkamlaibjbaa
open Go.RowKit

theorem countS_kids (t : Tree) : countS t = 1 + countsS t.kids := by cases t; rfl
theorem countsS_set : (ts : List Tree) → (i : Nat) → (k : Tree) → (hi : i < ts.length) → countsS (ts.set i k) + countS ts[i] = countsS ts + countS k
  | t :: ts, 0, k, _ => by simp [countsS]; omega
  | t :: ts, i + 1, k, hi => by
    have := countsS_set ts i k (by simpa using hi)
    simp only [List.set_cons_succ, countsS, List.getElem_cons_succ]
    omega
theorem repl_count (t : Tree) (i : Nat) (k : Tree) (X : Nat) (h : ∀ hi : i < t.kids.length, countS k ≤ countS t.kids[i] + X) : countS (replS t i k) ≤ countS t + X := by
  rw [countS_kids, countS_kids t]
  show 1 + countsS (t.kids.set i k) ≤ _
  rcases Nat.lt_or_ge i t.kids.length with hi | hi
  · have h1 := countsS_set t.kids i k hi
    have h2 := h hi
    omega
  · rw [List.set_eq_of_length_le hi]; omega
theorem kidS_get {t : Tree} {i : Int} (hi : i.toNat < t.kids.length) : kidS t i = t.kids[i.toNat] := by
  unfold kidS; rw [List.getD_eq_getElem?_getD, List.getElem?_eq_getElem hi]; rfl
theorem put_count : (p : List Int) → (t : Tree) → (l : List Tree) → countS (putS t p l) ≤ countS t + (countsS l + 1)
  | [], t, l => by simp only [putS, rowT, countS]; omega
  | [_], t, l => by simp only [putS, rowT, countS]; omega
  | i :: k :: p, t, l => by
    rw [putS]
    refine repl_count _ _ _ _ fun hi => ?_
    rw [kidS_get hi]
    refine repl_count _ _ _ _ fun hk => ?_
    rw [kidS_get hk]
    exact put_count p _ l
theorem countsS_drop_le (ts : List Tree) (k : Nat) : countsS (ts.drop k) ≤ countsS ts := by
  have h := countsS_append (ts.take k) (ts.drop k)
  rw [List.take_append_drop] at h
  omega
theorem splice_count (l : List Tree) (a b : Nat) (bs : List Tree) : countsS (spliceS l a b bs) ≤ 2 * countsS l + countsS bs := by
  unfold spliceS
  rw [countsS_append, countsS_append]
  have h1 := countsS_take_le l a
  have h2 := countsS_drop_le l b
  omega
theorem getD_count (l : List Tree) (a : Nat) : countS (l.getD a zeroT) ≤ countsS l + 1 := by
  rw [List.getD_eq_getElem?_getD]
  rcases Nat.lt_or_ge a l.length with h | h
  · rw [List.getElem?_eq_getElem h]
    have h1 := countsS_take h
    have h2 := countsS_take_le l (a + 1)
    show countS l[a] ≤ _
    omega
  · rw [List.getElem?_eq_none h]
    show countS zeroT ≤ _
    have : countS zeroT = 1 := rfl
    omega
theorem kid_count (t : Tree) (i : Int) : countsS (kidS t i).kids ≤ countS t := by
  have h := getD_count t.kids i.toNat
  have h2 := countS_kids (t.kids.getD i.toNat zeroT)
  have h3 := countS_kids t
  show countsS (t.kids.getD i.toNat zeroT).kids ≤ _
  omega
theorem change_count (l : List Tree) (op : OpD) : countsS (changeS l op).1 ≤ 4 * countsS l + countsS op.nodes + 4 := by
  unfold changeS
  split
  · exact Nat.zero_le _
  · split
    · have := splice_count l op.at_.toNat op.at_.toNat op.nodes
      show countsS (spliceS _ _ _ _) ≤ _
      omega
    · split
      · split
        · have := splice_count l op.at_.toNat (op.at_ + op.nodes.length).toNat []
          have h0 : countsS ([] : List Tree) = 0 := rfl
          show countsS (spliceS _ _ _ _) ≤ _
          omega
        · exact Nat.zero_le _
      · split
        · have h1 := splice_count l op.at_.toNat (op.at_ + op.n).toNat [filledS (op.nodes.headD zeroT) op.slot.toNat ((l.take (op.at_ + op.n).toNat).drop op.at_.toNat)]
          have h2 : countS (filledS (op.nodes.headD zeroT) op.slot.toNat ((l.take (op.at_ + op.n).toNat).drop op.at_.toNat)) ≤ countS (op.nodes.headD zeroT) + (countsS l + 1) := by
            refine repl_count _ _ _ _ fun hi => ?_
            have h3 := countsS_drop_le (l.take (op.at_ + op.n).toNat) op.at_.toNat
            have h4 := countsS_take_le l (op.at_ + op.n).toNat
            simp only [rowT, countS]
            omega
          have h5 : countS (op.nodes.headD zeroT) ≤ countsS op.nodes + 1 := by
            cases op.nodes with
            | nil => exact Nat.le_refl _
            | cons x xs => simp only [List.headD_cons, countsS]; omega
          have h6 : ∀ x : Tree, countsS [x] = countS x := fun x => rfl
          rw [h6] at h1
          show countsS (spliceS _ _ _ _) ≤ _
          omega
        · split
          · split
            · exact Nat.zero_le _
            · have h1 := splice_count l op.at_.toNat (op.at_ + 1).toNat (kidS (l.getD op.at_.toNat zeroT) op.slot).kids
              have h2 := kid_count (l.getD op.at_.toNat zeroT) op.slot
              have h3 := getD_count l op.at_.toNat
              show countsS (spliceS _ _ _ _) ≤ _
              omega
          · split
            · have h1 := splice_count l op.at_.toNat (op.at_ + 1).toNat [.mk (l.getD op.at_.toNat zeroT).kind op.text (l.getD op.at_.toNat zeroT).cols (l.getD op.at_.toNat zeroT).kids]
              have h6 : countsS [Tree.mk (l.getD op.at_.toNat zeroT).kind op.text (l.getD op.at_.toNat zeroT).cols (l.getD op.at_.toNat zeroT).kids] = countS (l.getD op.at_.toNat zeroT) := by
                rw [countS_kids (l.getD op.at_.toNat zeroT)]; rfl
              have h3 := getD_count l op.at_.toNat
              rw [h6] at h1
              show countsS (spliceS _ _ _ _) ≤ _
              omega
            · exact Nat.zero_le _
theorem countS_pos (t : Tree) : 1 ≤ countS t := by rw [countS_kids]; omega
theorem find_count : (t : Tree) → (p : List Int) → countS (findS t p).1 ≤ countS t
  | t, [] => by simp [findS]
  | t, [_] => by simp [findS]
  | t, i :: k :: p => by
    have hz : countS zeroT ≤ countS t := countS_pos t
    rw [findS]
    split
    · rename_i hi
      split
      · rename_i hk
        have h0 := find_count ((t.kids[i.toNat]'hi.2).kids[k.toNat]'hk.2) p
        have e1 : countS t.kids[i.toNat] ≤ countS t := by
          rw [countS_kids t]
          have := countsS_take hi.2
          have := countsS_take_le t.kids (i.toNat + 1)
          omega
        have e2 : countS t.kids[i.toNat].kids[k.toNat] ≤ countS t.kids[i.toNat] := by
          rw [countS_kids t.kids[i.toNat]]
          have := countsS_take hk.2
          have := countsS_take_le t.kids[i.toNat].kids (k.toNat + 1)
          omega
        omega
      · exact hz
    · exact hz
theorem rowRes_count (t : Tree) (p : List Int) {m : Nat} (h : countS t ≤ m) : countsS (rowRes t p).1.kids ≤ m := by
  have hz : countsS zeroT.kids ≤ m := Nat.zero_le _
  unfold rowRes
  split
  · exact hz
  · split
    · exact hz
    · have h1 := find_count t p
      have h2 := countS_kids (findS t p).1
      show countsS (findS t p).1.kids ≤ m
      omega
theorem rowRes_found {t : Tree} {p : List Int} (hv : validS t = true) (h : (rowRes t p).2 = 0) : (findS t p).2 = true ∧ (rowRes t p).1 = (findS t p).1 := by
  unfold rowRes at h ⊢
  rw [if_neg (by simp [hv])] at h ⊢
  split at h
  · simp at h
  · rename_i h1
    rw [if_neg h1]
    exact ⟨by simpa using h1, rfl⟩
theorem valid_count {t : Tree} (h : validS t = true) : countS t ≤ 1000 ∧ t.kind = 1 ∧ formS t = true ∧ depthS t ≤ 24 := by
  unfold validS at h
  simp only [Bool.and_eq_true, decide_eq_true_eq, beq_iff_eq] at h
  exact ⟨by omega, h.1.1.1, h.1.1.2, by omega⟩
end Go.Proofs.Yteckkamlaibjbaa
