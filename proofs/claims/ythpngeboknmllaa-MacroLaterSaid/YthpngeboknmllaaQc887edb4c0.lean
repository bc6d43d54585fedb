/- Texts put together. -/
import Derived.Test.YthpngeboknmllaaQ380b24acad
import Derived.Test.YthpngeboknmllaaQ17587d1427
set_option linter.unusedVariables false
set_option linter.unusedSimpArgs false
namespace Go.Proofs.Ythpngeboknmllaa
open Go.RowKit
def validS (t:Tree):Bool:=(t.kind == 1) && formS t && decide ((countS t:Int)≤1000) && decide ((depthS t:Int)≤24)
def NBox (W:World) (b:Nat) (k c:Int) (s:ByteArray) (v:Value):Prop :=
 W.cell? ⟨b,0,none⟩ = some (.int .i64 k)∧W.cell? ⟨b,1,none⟩ = some (.string s)∧W.cell? ⟨b,2,none⟩ = some (.int .i64 c)∧W.cell? ⟨b,3,none⟩ = some v
theorem NBox.new (w:World) (k c:Int) (s:ByteArray) (v:Value):NBox (w.alloc (Obj.cells #[.int .i64 k,.string s,.int .i64 c,v] 31)) w.heap.size k c s v :=
 ⟨by rw [World.cell?_alloc_new];rfl,by rw [World.cell?_alloc_new];rfl,by rw [World.cell?_alloc_new];rfl,by rw [World.cell?_alloc_new];rfl⟩
theorem NBox.below {W W':World} {B b:Nat} {k c:Int} {s:ByteArray} {v:Value} (h:NBox W b k c s v) (hb:Below B W W') (hB:b < B):NBox W' b k c s v :=
 ⟨((bcell hb).1 _ _ hB).trans h.1,((bcell hb).1 _ _ hB).trans h.2.1,((bcell hb).1 _ _ hB).trans h.2.2.1,((bcell hb).1 _ _ hB).trans h.2.2.2⟩
set_option maxHeartbeats 1000000 in
theorem valid_any (t : Tree) (A : Option Addr) (cap : Nat) (w : World) (hv : SliceR treeE w (Lt w.heap.size) t.kids (.slice A t.kids.length cap)) (htx : t.text.size ≤ maxLen) (hct : countS t ≤ 1000000000) :
    Calls Try.prog 38 #[.agg #[.int .i64 t.kind, .string t.text, .int .i64 t.cols, .slice A t.kids.length cap]] w fun e w' => e = .returned (.bool (validS t)) ∧ Below w.heap.size w w' := by
  have C1 : Hid (∀ W, Below w.heap.size w W → Calls Try.prog 45 #[.agg #[.int .i64 t.kind, .string t.text, .int .i64 t.cols, .slice A t.kids.length cap]] W fun e w' => e = .returned (.bool (formS t)) ∧ Below W.heap.size W w') := fun W hW => form_any t W _ (hv.below hW hW.size) htx
  have C2 : Hid (∀ W, Below w.heap.size w W → Calls Try.prog 46 #[.agg #[.int .i64 t.kind, .string t.text, .int .i64 t.cols, .slice A t.kids.length cap]] W fun e w' => e = .returned (.int .i64 (countS t)) ∧ Below W.heap.size W w') := fun W hW => count_any t W _ (hv.below hW hW.size) hct
  have C3 : Hid (∀ W, Below w.heap.size w W → Calls Try.prog 47 #[.agg #[.int .i64 t.kind, .string t.text, .int .i64 t.cols, .slice A t.kids.length cap]] W fun e w' => e = .returned (.int .i64 (depthS t)) ∧ Below W.heap.size W w') := fun W hW => depth_any t W _ (hv.below hW hW.size) hct
  have HF : Hid (validS t = ((t.kind == 1) && formS t && decide ((countS t : Int) ≤ 1000) && decide ((depthS t : Int) ≤ 24))) := rfl
  generalize formS t = b2 at *
  generalize countS t = n1 at *
  generalize depthS t = n2 at *
  generalize hvs : validS t = b at *
  obtain ⟨tk, tx, tc, ts⟩ := t
  simp only [Tree.kind, Tree.text, Tree.cols, Tree.kids] at *
  have HB0 : Hid (Below w.heap.size w (w.alloc (Obj.cells #[.int .i64 tk, .string tx, .int .i64 tc, .slice A ts.length cap] 31))) := (Below.refl _ _).alloc (Nat.le_refl _) _
  have KB : Hid (∀ W, Below (w.alloc (Obj.cells #[.int .i64 tk, .string tx, .int .i64 tc, .slice A ts.length cap] 31)).heap.size (w.alloc (Obj.cells #[.int .i64 tk, .string tx, .int .i64 tc, .slice A ts.length cap] 31)) W → NBox W w.heap.size tk tc tx (.slice A ts.length cap)) :=
    fun W hW => (NBox.new w tk tc tx _).below hW (by simp)
  clear hv htx hct hvs
  cases h1 : (tk == 1) with
  | false =>
    have HG : Hid (b = false) := by show _ = _; rw [HF.out, h1]; rfl
    go_enter Try.func38, Try.ntmps38
    go_wp2_with fail
    go_ret
    exact ⟨by rw [HG.out]; rfl, HB0.out⟩
  | true =>
  cases b2 with
  | false =>
    have HG : Hid (b = false) := by show _ = _; rw [HF.out]; simp
    go_enter Try.func38, Try.ntmps38
    go_wp2_with fail
    refine (C1.out _ HB0.out).mono ?_
    rintro e w1 ⟨rfl, hb1⟩
    have HB1 := hid (HB0.out.trans (hb1.mono HB0.out.size))
    clear hb1
    go_wp2_with fail
    go_ret
    exact ⟨by rw [HG.out]; rfl, HB1.out⟩
  | true =>
  by_cases h3 : (n1 : Int) ≤ 1000
  rotate_left
  · have HG : Hid (b = false) := by show _ = _; rw [HF.out, decide_eq_false h3]; simp
    have d3 : decide ((n1 : Int) ≤ 1000) = false := decide_eq_false h3
    clear h3
    go_enter Try.func38, Try.ntmps38
    go_wp2_with fail
    refine (C1.out _ HB0.out).mono ?_
    rintro e w1 ⟨rfl, hb1⟩
    have HB1 := hid (HB0.out.trans (hb1.mono HB0.out.size))
    obtain ⟨m0, m1, m2, m3⟩ := KB.out w1 hb1
    clear hb1
    go_wp2_with fail
    refine (C2.out _ HB1.out).mono ?_
    rintro e w2 ⟨rfl, hb2⟩
    have HB2 := hid (HB1.out.trans (hb2.mono HB1.out.size))
    clear hb2
    go_wp2_with fail
    go_ret
    exact ⟨by rw [HG.out]; rfl, HB2.out⟩
  · have HG : Hid (b = decide ((n2 : Int) ≤ 24)) := by show _ = _; rw [HF.out, h1, decide_eq_true h3]; rfl
    go_enter Try.func38, Try.ntmps38
    go_wp2_with fail
    refine (C1.out _ HB0.out).mono ?_
    rintro e w1 ⟨rfl, hb1⟩
    have HB1 := hid (HB0.out.trans (hb1.mono HB0.out.size))
    have HV1 := hid hb1
    obtain ⟨m0, m1, m2, m3⟩ := KB.out w1 hb1
    clear hb1
    go_wp2_with fail
    refine (C2.out _ HB1.out).mono ?_
    rintro e w2 ⟨rfl, hb2⟩
    have HB2 := hid (HB1.out.trans (hb2.mono HB1.out.size))
    obtain ⟨p0, p1, p2, p3⟩ := KB.out w2 (HV1.out.trans (hb2.mono HV1.out.size))
    clear hb2
    go_wp2_with fail
    refine (C3.out _ HB2.out).mono ?_
    rintro e w3 ⟨rfl, hb3⟩
    have HB3 := hid (HB2.out.trans (hb3.mono HB2.out.size))
    clear hb3
    go_wp2_with fail
    go_ret
    exact ⟨by rw [HG.out]; rfl, HB3.out⟩
def rowT (ts:List Tree):Tree:=.mk 1 ⟨#[]⟩ 0 ts
end Go.Proofs.Ythpngeboknmllaa
