/- posmap: cut. -/
import Derived.Test.YteckkamlaibjbaaPlace
import Derived.Test.YteckkamlaibjbaaCuts
import Derived.Test.YteckkamlaibjbaaRef13O
import Derived.Test.YteckkamlaibjbaaRef13W
import Derived.Deep.QuietTactic
import Derived.BigQuiet
import Derived.Deep.RegionHeld3
set_option linter.unusedVariables false
set_option linter.unusedSimpArgs false
namespace Go.Proofs.Yteckkamlaibjbaa
open Go.RowKit

abbrev zeroPlace : Array Value := #[.int .i64 0, .slice none 0 0, .int .i64 0, .int .i64 0, .slice none 0 0, .int .i64 0, .string ⟨#[]⟩, .string ⟨#[]⟩, .int .i64 0, .int .i64 0, .bool false, .int .i64 0, .slice none 0 0]

def placeOf (op : OpD) (pos : List Int) : PlaceD :=
  if op.row.length + 1 < pos.length then ⟨op, op.nodes.length, pos.getD op.row.length 0, true, pos.getD (op.row.length + 1) 0, pos.drop (op.row.length + 2)⟩
  else ⟨op, op.nodes.length, pos.getD op.row.length 0, false, 0, []⟩

theorem drewN_alloc (w : World) (o : Obj) (n : Nat) : (w.alloc o).drewN n = (w.drewN n).alloc o := rfl

set_option maxHeartbeats 400000 in
/-- Outside the row. -/
theorem cut_no (op : OpD) (pos : List Int) (vr vn vp : Value) (Ar An Ap : Option Addr) (cr cn cp : Nat) (w : World) (hop : op.Ok) (hr : IntsR w (Lt w.heap.size) op.row (.slice Ar op.row.length cr)) (hpos : IntsR w (Lt w.heap.size) pos (.slice Ap pos.length cp)) (hpl : pos.length ≤ 100000)
    (hw : withinS pos op.row = false) :
    Calls Try.prog 37 #[.agg (opC op (.slice Ar op.row.length cr) (.slice An op.nodes.length cn)), .slice Ap pos.length cp] w
      fun e w' => e = .returned (.tuple #[.agg zeroPlace, .bool false]) ∧ Below w.heap.size w w' := by
  obtain ⟨hat, hn, hslot, hnl, hrl⟩ := hop
  have hc1 : pos.length ≤ cp := by obtain ⟨A, cap, cs, e, h1, _⟩ := hpos; injection e with _ _ e3; omega
  obtain ⟨kind, row, at_, n, nodes, slot, old, text⟩ := op
  simp only [opC] at *
  by_cases h1 : pos.length ≤ row.length
  · go_enter Try.func37, Try.ntmps37
    go_wp2_with fail
    go_quiet (fail)
    rw [drewN_alloc, drewN_alloc]
    generalize hw0 : w.drewN nq = w0
    have hz0 : w0.heap.size = w.heap.size := by rw [← hw0]; rfl
    have HB : Hid (Below w.heap.size w w0) := by rw [← hw0]; exact below_draw (Below.refl _ _) _
    clear hw0
    go_wp2_with fail
    refine bodyPost_ret (v := .tuple #[.agg #[.int .i64 0, .slice none 0 0, .int .i64 0, .int .i64 0, .slice none 0 0, .int .i64 0, .string ⟨#[]⟩, .string ⟨#[]⟩, .int .i64 0, .int .i64 0, .bool false, .int .i64 0, .slice none 0 0], .bool false]) (by simp [results, Try.results37, go_sem, hz0]) rfl ?_
    exact ⟨rfl, HB.out.trans (((below_alloc _ _).trans ((below_alloc _ _).mono (by simp))).mono (by omega))⟩
  have e1 : decide (pos.length ≤ row.length) = false := by simpa using h1
  have hw1 : IntKind.i64.wrap ((row.length : Int) + 2) = (row.length : Int) + 2 := IntWalk.i64_in _ (by omega)
  by_cases h2 : pos.length = row.length + 2
  · have e2 : ((pos.length : Int) == (row.length : Int) + 2) = true := by simp; omega
    clear h2 h1
    go_enter Try.func37, Try.ntmps37
    go_wp2_with fail
    go_quiet (fail)
    rw [drewN_alloc, drewN_alloc]
    generalize hw0 : w.drewN nq = w0
    have hz0 : w0.heap.size = w.heap.size := by rw [← hw0]; rfl
    have HB : Hid (Below w.heap.size w w0) := by rw [← hw0]; exact below_draw (Below.refl _ _) _
    clear hw0
    go_wp2_with fail
    refine bodyPost_ret (v := .tuple #[.agg #[.int .i64 0, .slice none 0 0, .int .i64 0, .int .i64 0, .slice none 0 0, .int .i64 0, .string ⟨#[]⟩, .string ⟨#[]⟩, .int .i64 0, .int .i64 0, .bool false, .int .i64 0, .slice none 0 0], .bool false]) (by simp [results, Try.results37, go_sem, hz0]) rfl ?_
    exact ⟨rfl, HB.out.trans (((below_alloc _ _).trans ((below_alloc _ _).mono (by simp))).mono (by omega))⟩
  · have e2 : ((pos.length : Int) == (row.length : Int) + 2) = false := by simp; omega
    have hne : pos.take row.length ≠ row := by
      intro h
      have : withinS pos row = true := by unfold withinS; exact decide_eq_true ⟨by omega, h, h2⟩
      rw [this] at hw; cases hw
    obtain ⟨A1, hsl, hcut⟩ := cut_h intE Try.underlying25 size_int Ap pos.length cp row.length row.length rfl (by omega) hc1
    have hd : decide (pos.take row.length = row) = false := decide_eq_false hne
    have o1 := Obj.cells #[.int .i64 kind, .slice Ar row.length cr, .int .i64 at_, .int .i64 n, .slice An nodes.length cn, .int .i64 slot, .string old, .string text] 27
    have heq : ∀ W, Below w.heap.size w W → Calls Try.prog 57 #[.slice A1 row.length cp, .slice Ar row.length cr] W fun e w' => e = .returned (.bool false) ∧ ∃ n, w' = W.drewN n := by
      intro W hW
      have := equal_q (pos.take row.length) row W _ _ _ _ ((hcut _ _ _ hpos).below hW (Nat.le_refl _)) (hr.below hW (Nat.le_refl _))
      rw [hd] at this
      exact this
    have HE := hid heq
    have hr1 : (row.length : Int) ≤ (pos.length : Int) := by omega
    clear hne h2 h1 hcut hd heq o1
    go_enter Try.func37, Try.ntmps37
    go_wp2_with fail
    go_quiet ((go_at_call 57; exact Calls.quiet_of (HE.out _ (below_draw (((below_alloc _ _).trans ((below_alloc _ _).mono (by simp)))) _))))
    rw [drewN_alloc, drewN_alloc]
    generalize hw0 : w.drewN nq = w0
    have hz0 : w0.heap.size = w.heap.size := by rw [← hw0]; rfl
    have HB : Hid (Below w.heap.size w w0) := by rw [← hw0]; exact below_draw (Below.refl _ _) _
    clear hw0
    go_wp2_with fail
    refine bodyPost_ret (v := .tuple #[.agg #[.int .i64 0, .slice none 0 0, .int .i64 0, .int .i64 0, .slice none 0 0, .int .i64 0, .string ⟨#[]⟩, .string ⟨#[]⟩, .int .i64 0, .int .i64 0, .bool false, .int .i64 0, .slice none 0 0], .bool false]) (by simp [results, Try.results37, go_sem, hz0]) rfl ?_
    exact ⟨rfl, HB.out.trans (((below_alloc _ _).trans ((below_alloc _ _).mono (by simp))).mono (by omega))⟩

end Go.Proofs.Yteckkamlaibjbaa
