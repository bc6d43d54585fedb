/- position.check, First, Last. -/
import Derived.Test.YtognlokeadlpbaaSel3
set_option linter.unusedVariables false
set_option linter.unusedSimpArgs false
set_option maxRecDepth 100000
namespace Go.Proofs.Ytognlokeadlpbaa
open Go.RowKit

def chkR (b1 b2 : Bool) : Int := if b1 then (if b2 then 0 else 2) else 1
set_option maxHeartbeats 1000000 in
theorem check_any (t : Tree) (p : List Int) (A : Option Addr) (cap : Nat) (b : Value) (w : World) (hv : SliceR treeE w (Lt w.heap.size) t.kids (.slice A t.kids.length cap)) (htx : t.text.size ≤ maxLen) (hp : IntsR w (Lt w.heap.size) p b) :
    Calls Try.prog 68 #[.agg #[.int .i64 t.kind, .string t.text, .int .i64 t.cols, .slice A t.kids.length cap], b] w fun e w' => e = .returned (.int .i64 (chkR (validS t) (posIn t p))) ∧ Below w.heap.size w w' := by
  have hb0 : Below w.heap.size w (w.alloc (Obj.cells #[.int .i64 t.kind, .string t.text, .int .i64 t.cols, .slice A t.kids.length cap] 24)) := below_allocR' _ _
  have HB0 := hid hb0
  have C1 : Hid (∀ W, Below w.heap.size w W → Calls Try.prog 53 #[.agg #[.int .i64 t.kind, .string t.text, .int .i64 t.cols, .slice A t.kids.length cap]] W fun e w' => e = .returned (.bool (validS t)) ∧ Below W.heap.size W w') := fun W hW => nValid_any t A cap W (hv.below hW hW.size) htx
  have C2 : Hid (∀ W, Below w.heap.size w W → Calls Try.prog 65 #[.agg #[.int .i64 t.kind, .string t.text, .int .i64 t.cols, .slice A t.kids.length cap], b] W fun e w' => e = .returned (.bool (posIn t p)) ∧ Below W.heap.size W w') := fun W hW => in_any t p A cap b W (hv.below hW hW.size) htx (hp.below hW hW.size)
  have KB : Hid (∀ W, Below (w.alloc (Obj.cells #[.int .i64 t.kind, .string t.text, .int .i64 t.cols, .slice A t.kids.length cap] 24)).heap.size (w.alloc (Obj.cells #[.int .i64 t.kind, .string t.text, .int .i64 t.cols, .slice A t.kids.length cap] 24)) W → NBox W w.heap.size t.kind t.cols t.text (.slice A t.kids.length cap)) :=
    fun W hW => (NBox.new w t.kind t.cols t.text _).below hW (by simp)
  obtain ⟨A', cap', rfl⟩ := hp.form
  generalize posIn t p = b2 at *
  generalize validS t = b1 at *
  obtain ⟨tk, tx, tc, ts⟩ := t
  simp only [Tree.kind, Tree.text, Tree.cols, Tree.kids] at *
  clear hv htx hp hb0
  cases b1
  · go_enter Try.func68, Try.ntmps68
    go_wp2_with fail
    refine (C1.out _ HB0.out).mono ?_
    rintro e w1 ⟨rfl, hb1⟩
    have HB1 := hid (HB0.out.trans (hb1.mono HB0.out.size))
    clear hb1
    go_wp2_with fail
    go_ret
    exact ⟨rfl, HB1.out⟩
  · go_enter Try.func68, Try.ntmps68
    go_wp2_with fail
    refine (C1.out _ HB0.out).mono ?_
    rintro e w1 ⟨rfl, hb1⟩
    have HB1 := hid (HB0.out.trans (hb1.mono HB0.out.size))
    obtain ⟨p0, p1, p2, p3⟩ := KB.out w1 hb1
    clear hb1
    go_wp2_with fail
    refine (C2.out _ HB1.out).mono ?_
    rintro e w2 ⟨rfl, hb2⟩
    have HB2 := hid (HB1.out.trans (hb2.mono HB1.out.size))
    clear hb2 p0 p1 p2 p3
    cases b2
    all_goals
      go_wp2_with fail
      go_ret
      exact ⟨rfl, HB2.out⟩

/-- A position in fresh memory, and an error. -/
def PosRes (w : World) (r : List Int × Int) (e : Ending) (w' : World) : Prop :=
  Below w.heap.size w w' ∧ ∃ v, e = .returned (.tuple #[v, .int .i64 r.2]) ∧ IntsR w' (fun k => w.heap.size ≤ k ∧ k < w'.heap.size) r.1 v

def firstR (t : Tree) : List Int × Int := if validS t then ([0], 0) else ([], 1)
def lastR (t : Tree) : List Int × Int := if validS t then ([(t.kids.length : Int)], 0) else ([], 1)
theorem ret_tuple {a b c d : Value} (h1 : a = c) (h2 : b = d) : Ending.returned (.tuple #[a, b]) = .returned (.tuple #[c, d]) := by rw [h1, h2]
end Go.Proofs.Ytognlokeadlpbaa
