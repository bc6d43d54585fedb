/- vinculumlaw11.few; ref11.Same; how a part comes back. -/
import Derived.Test.YtognlokeadlpbaaSel3
import Derived.Test.YtognlokeadlpbaaRef09
set_option linter.unusedVariables false
set_option linter.unusedSimpArgs false
set_option maxRecDepth 100000
namespace Go.Proofs.Ytognlokeadlpbaa
open Go.RowKit

mutual
theorem leftS_count : (t : Tree) → (m : Int) → 0 ≤ leftS t m → leftS t m = m - countS t
  | .mk _ _ _ ts, m, h => by
    rw [leftS] at h ⊢
    rw [countS, leftsS_count ts (m - 1) h]; omega
theorem leftsS_count : (ts : List Tree) → (m : Int) → 0 ≤ leftsS ts m → leftsS ts m = m - countsS ts
  | [], m, h => by rw [leftsS, countsS]; omega
  | t :: ts, m, h => by
    rw [leftsS] at h ⊢
    split at h
    · rename_i h0
      rw [if_pos h0]
      have h1 := leftsS_count ts (leftS t m) h
      have h2 := leftS_count t m (by omega)
      rw [h1, h2, countsS]; omega
    · rename_i h0; omega
end
theorem few_count {t : Tree} {m : Int} (h : fewS t m = true) : (countS t : Int) ≤ m := by
  unfold fewS at h
  have h' : 0 ≤ leftS t m := by simpa using h
  have := leftS_count t m h'
  omega

def few11S (t : Tree) (a b : List Int) : Bool := fewS t 100 && decide (a.length ≤ 60) && decide (b.length ≤ 60)
set_option maxHeartbeats 1000000 in
theorem few11_any (t : Tree) (a b : List Int) (A Aa Ab : Option Addr) (cap ca cb : Nat) (w : World) (hv : SliceR treeE w (Lt w.heap.size) t.kids (.slice A t.kids.length cap)) (ha : a.length ≤ maxLen) (hb : b.length ≤ maxLen) :
    Calls Try.prog 15 #[.agg #[.int .i64 t.kind, .string t.text, .int .i64 t.cols, .slice A t.kids.length cap], .slice Aa a.length ca, .slice Ab b.length cb] w fun e w' => e = .returned (.bool (few11S t a b)) ∧ Below w.heap.size w w' := by
  have hb0 : Below w.heap.size w (w.alloc (.cells #[.int .i64 t.kind, .string t.text, .int .i64 t.cols, .slice A t.kids.length cap] 24)) := below_allocR' _ _
  have C1 := hid (few_any t (w.alloc (.cells #[.int .i64 t.kind, .string t.text, .int .i64 t.cols, .slice A t.kids.length cap] 24)) _ 100 (hv.below hb0 hb0.size) (by omega) (by omega))
  have HB0 := hid hb0
  have HF : Hid (few11S t a b = (fewS t 100 && decide (a.length ≤ 60) && decide (b.length ≤ 60))) := rfl
  unfold maxLen at ha hb
  generalize fewS t 100 = b1 at *
  obtain ⟨tk, tx, tc, ts⟩ := t
  simp only [Tree.kind, Tree.text, Tree.cols, Tree.kids] at *
  rw [HF.out]
  clear hv hb0 HF
  by_cases h1 : a.length ≤ 60 <;> by_cases h2 : b.length ≤ 60 <;> cases b1
  all_goals
    have d1 : decide ((a.length : Int) ≤ 60) = decide (a.length ≤ 60) := by rw [Bool.eq_iff_iff]; simp; omega
    have d2 : decide ((b.length : Int) ≤ 60) = decide (b.length ≤ 60) := by rw [Bool.eq_iff_iff]; simp; omega
    first
      | rw [decide_eq_true h1] at d1 ⊢
      | rw [decide_eq_false h1] at d1 ⊢
    first
      | rw [decide_eq_true h2] at d2 ⊢
      | rw [decide_eq_false h2] at d2 ⊢
    clear h1 h2
    go_enter Try.func15, Try.ntmps15
    go_wp2_with fail
    refine C1.out.mono ?_
    rintro e w1 ⟨rfl, hb1⟩
    have HB1 := hid (bl_call HB0.out hb1)
    clear hb1
    go_wp2_with fail
    go_ret
    exact ⟨by first | rfl | (simp; done) | (simp_all; done), HB1.out⟩

set_option maxHeartbeats 1000000 in
theorem rangeSame_any (m : List Int) (x y : Int) (v1 v2 : Value) (w : World) (h1 : IntsR w (Lt w.heap.size) m v1) (h2 : IntsR w (Lt w.heap.size) m v2) :
    Calls Try.prog 20 #[.agg #[v1, .int .i64 x, .int .i64 y], .agg #[v2, .int .i64 x, .int .i64 y]] w fun e w' => e = .returned (.bool true) ∧ Below w.heap.size w w' := by
  obtain ⟨A1, c1, rfl⟩ := h1.form
  obtain ⟨A2, c2, rfl⟩ := h2.form
  have hb0 : Below w.heap.size w ((w.alloc (.cells #[.slice A1 m.length c1, .int .i64 x, .int .i64 y] 29)).alloc (.cells #[.slice A2 m.length c2, .int .i64 x, .int .i64 y] 29)) := bl_alloc (below_allocR' _ _) _
  have C := hid (same_q m m _ _ _ _ _ (h1.below hb0 hb0.size) (h2.below hb0 hb0.size))
  rw [decide_eq_true ((cmpS_zero _ _).2 rfl)] at C
  have HB0 := hid hb0
  have e1 : (x == x) = true := by simp
  have e2 : (y == y) = true := by simp
  clear h1 h2 hb0
  go_enter Try.func20, Try.ntmps20
  go_wp2_with fail
  refine C.out.mono ?_
  rintro e w1 ⟨rfl, n, rfl⟩
  go_wp2_with fail
  go_ret
  exact ⟨rfl, bl_dn HB0.out⟩

def betV (b1 b2 b3 : Bool) (r : List Int × Int × Int) : (List Int × Int × Int) × Int := if b1 = false then (([], 0, 0), 1) else if (b2 && b3) = false then (([], 0, 0), 2) else (r, 0)
def BetV (w : World) (x : (List Int × Int × Int) × Int) (e : Ending) (w' : World) : Prop :=
  ∃ v, e = .returned (.tuple #[.agg #[v, .int .i64 x.1.2.1, .int .i64 x.1.2.2], .int .i64 x.2]) ∧ IntsR w' (fun k => w.heap.size ≤ k ∧ k < w'.heap.size) x.1.1 v ∧ Below w.heap.size w w'
theorem BetRes.v {w w' : World} {b1 b2 b3 : Bool} {r : List Int × Int × Int} {e : Ending} (h : BetRes w b1 b2 b3 r e w') : BetV w (betV b1 b2 b3 r) e w' := by
  obtain ⟨hb, (⟨rfl, rfl⟩ | ⟨rfl, h2, rfl⟩ | ⟨rfl, rfl, rfl, v, rfl, hi⟩)⟩ := h
  · exact ⟨_, rfl, SliceR.nil_ 0 (by simp) none, hb⟩
  · unfold betV; rw [if_neg (by simp), if_pos h2]; exact ⟨_, rfl, SliceR.nil_ 0 (by simp) none, hb⟩
  · exact ⟨v, rfl, hi, hb⟩
end Go.Proofs.Ytognlokeadlpbaa
