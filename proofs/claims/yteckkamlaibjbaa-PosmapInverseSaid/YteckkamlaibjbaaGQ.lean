/- Texts put together: CutY, CutD. -/
import Derived.Test.YteckkamlaibjbaaCut
import Derived.BigRegion
/- posmap: cut, where it lies in the row. -/
set_option linter.unusedVariables false
set_option linter.unusedSimpArgs false
namespace Go.Proofs.Yteckkamlaibjbaa
open Go.RowKit

def CutYes (op : OpD) (p : PlaceD) (vr vn : Value) (w : World) (e : Ending) (w' : World) : Prop :=
  ∃ As cs, e = .returned (.tuple #[.agg (placeC p vr vn (.slice As p.rest.length cs)), .bool true]) ∧ IntsR w' (Lt w'.heap.size) p.rest (.slice As p.rest.length cs) ∧ Below w.heap.size w w'

set_option maxHeartbeats 1000000 in
set_option maxRecDepth 100000 in
/-- Inside the row, at its own level. -/
theorem cut_flat (op : OpD) (pos : List Int) (Ar An Ap : Option Addr) (cr cn cp : Nat) (w : World) (hop : op.Ok) (hr : IntsR w (Lt w.heap.size) op.row (.slice Ar op.row.length cr)) (hpos : IntsR w (Lt w.heap.size) pos (.slice Ap pos.length cp)) (hpl : pos.length ≤ 100000)
    (hw : withinS pos op.row = true) (hlen : pos.length = op.row.length + 1) (x : Int) (hx : pos[op.row.length]? = some x) :
    Calls Try.prog 37 #[.agg (opC op (.slice Ar op.row.length cr) (.slice An op.nodes.length cn)), .slice Ap pos.length cp] w
      (CutYes op ⟨op, op.nodes.length, x, false, 0, []⟩ (.slice Ar op.row.length cr) (.slice An op.nodes.length cn) w) := by
  obtain ⟨hat, hn, hslot, hnl, hrl⟩ := hop
  have hc1 : pos.length ≤ cp := by obtain ⟨A, cap, cs, e, h1, _⟩ := hpos; injection e with _ _ e3; omega
  obtain ⟨kind, row, at_, n, nodes, slot, old, text⟩ := op
  simp only [opC] at *
  have hte : pos.take row.length = row := by unfold withinS at hw; simp only [decide_eq_true_eq] at hw; exact hw.2.1
  obtain ⟨A1, hsl, hcut⟩ := cut_h intE Try.underlying25 size_int Ap pos.length cp row.length row.length rfl (by omega) hc1
  have hd : decide (pos.take row.length = row) = true := decide_eq_true hte
  have heq : ∀ W, Below w.heap.size w W → Calls Try.prog 57 #[.slice A1 row.length cp, .slice Ar row.length cr] W fun e w' => e = .returned (.bool true) ∧ ∃ n, w' = W.drewN n := by
    intro W hW
    have := equal_q (pos.take row.length) row W _ _ _ _ ((hcut _ _ _ hpos).below hW (Nat.le_refl _)) (hr.below hW (Nat.le_refl _))
    rw [hd] at this
    exact this
  have HE := hid heq
  obtain ⟨A, cap, rs, e, h1, h2, hrd, hls⟩ := hpos
  injection e with q1 q2 q3
  subst q1 q3
  have hlt : row.length < pos.length := by omega
  obtain ⟨g, o, rfl, hg, hi, c0⟩ := ints_at hrd hls hlt
  obtain rfl : pos[row.length] = x := by rw [List.getElem?_eq_getElem hlt] at hx; exact Option.some.inj hx
  have hg' : g < w.heap.size := hg
  have e1 : decide (pos.length ≤ row.length) = false := by simp; omega
  have e2 : ((pos.length : Int) == (row.length : Int) + 2) = false := by simp; omega
  have e3 : decide (row.length + 1 < pos.length) = false := by simp; omega
  have e4 : decide ((row.length : Int) + 1 < (pos.length : Int)) = false := by simp; omega
  have hw1 : IntKind.i64.wrap ((row.length : Int) + 2) = (row.length : Int) + 2 := IntWalk.i64_in _ (by omega)
  have hr1 : (row.length : Int) ≤ (pos.length : Int) := by omega
  have hr2 : (row.length : Int) < (pos.length : Int) := by omega
  have HX := hid hx
  have HL := hid hlen
  clear hte hcut hd heq hrd hls hx hlen hw hg hi q2 h1 h2 hat hn hslot hpl hr
  go_enter Try.func37, Try.ntmps37
  go_wp2_with fail
  go_quiet ((go_at_call 57; exact Calls.quiet_of (HE.out _ (below_draw (((below_alloc _ _).trans ((below_alloc _ _).mono (by simp)))) _))))
  rw [drewN_alloc, drewN_alloc]
  generalize hw0 : w.drewN nq = w0
  have hz0 : w.heap.size = w0.heap.size := by rw [← hw0]; rfl
  have HB : Hid (Below w.heap.size w w0) := by rw [← hw0]; exact below_draw (Below.refl _ _) _
  have c1 : w0.cell? ⟨g, o + row.length, none⟩ = some (.int .i64 pos[row.length]) := by rw [← hw0]; exact c0
  rw [hz0] at hg'
  rw [hz0]
  have n1 : g < w0.heap.size + 1 := by omega
  have n2 : g < w0.heap.size + 1 + 1 := by omega
  clear hw0 c0 HE hz0
  go_wp2_with fail
  go_region
  go_wp2_with fail
  refine bodyPost_ret (v := .tuple #[.agg #[.int .i64 kind, .slice Ar row.length cr, .int .i64 at_, .int .i64 n, .slice An nodes.length cn, .int .i64 slot, .string old, .string text, .int .i64 nodes.length, .int .i64 pos[row.length], .bool false, .int .i64 0, .slice none 0 0], .bool true]) (by simp [results, Try.results37, go_sem]) rfl ?_
  exact ⟨none, 0, rfl, SliceR.nil_ 0 (by simp) none, HB.out.trans ((Below.drew (((below_alloc _ _).trans ((below_alloc _ _).mono (by simp))).trans ((below_alloc _ _).mono (by simp; omega)))).mono HB.out.size)⟩

end Go.Proofs.Yteckkamlaibjbaa
/- posmap: cut, where it lies inside an item of the row. -/
set_option linter.unusedVariables false
set_option linter.unusedSimpArgs false
namespace Go.Proofs.Yteckkamlaibjbaa
open Go.RowKit

theorem drew_alloc (w : World) (o : Obj) : (w.alloc o).drew = (w.drew).alloc o := rfl

theorem three_drew (w : World) (a b c : Obj) : Below w.heap.size w (((w.alloc a).alloc b).alloc c).drew :=
  Below.drew (((below_alloc _ _).trans ((below_alloc _ _).mono (by simp))).trans ((below_alloc _ _).mono (by simp; omega)))

set_option maxHeartbeats 1000000 in
set_option maxRecDepth 100000 in
/-- Inside an item of the row. -/
theorem cut_deep (op : OpD) (pos : List Int) (Ar An Ap : Option Addr) (cr cn cp : Nat) (w : World) (hop : op.Ok) (hr : IntsR w (Lt w.heap.size) op.row (.slice Ar op.row.length cr)) (hpos : IntsR w (Lt w.heap.size) pos (.slice Ap pos.length cp)) (hpl : pos.length ≤ 100000)
    (hw : withinS pos op.row = true) (hlen : op.row.length + 2 < pos.length) (x y : Int) (hx : pos[op.row.length]? = some x) (hy : pos[op.row.length + 1]? = some y) :
    Calls Try.prog 37 #[.agg (opC op (.slice Ar op.row.length cr) (.slice An op.nodes.length cn)), .slice Ap pos.length cp] w
      (CutYes op ⟨op, op.nodes.length, x, true, y, pos.drop (op.row.length + 2)⟩ (.slice Ar op.row.length cr) (.slice An op.nodes.length cn) w) := by
  obtain ⟨hat, hn, hslot, hnl, hrl⟩ := hop
  have hc1 : pos.length ≤ cp := by obtain ⟨A, cap, cs, e, h1, _⟩ := hpos; injection e with _ _ e3; omega
  obtain ⟨kind, row, at_, n, nodes, slot, old, text⟩ := op
  simp only [opC] at *
  have hte : pos.take row.length = row := by unfold withinS at hw; simp only [decide_eq_true_eq] at hw; exact hw.2.1
  obtain ⟨A1, hsl, hcut⟩ := cut_h intE Try.underlying25 size_int Ap pos.length cp row.length row.length rfl (by omega) hc1
  have hd : decide (pos.take row.length = row) = true := decide_eq_true hte
  have heq : ∀ W, Below w.heap.size w W → Calls Try.prog 57 #[.slice A1 row.length cp, .slice Ar row.length cr] W fun e w' => e = .returned (.bool true) ∧ ∃ n, w' = W.drewN n := by
    intro W hW
    have := equal_q (pos.take row.length) row W _ _ _ _ ((hcut _ _ _ hpos).below hW (Nat.le_refl _)) (hr.below hW (Nat.le_refl _))
    rw [hd] at this
    exact this
  have HE := hid heq
  obtain ⟨A2, hsl2, hcut2⟩ := cut_l intE Try.underlying25 size_int Ap pos.length cp ((row.length : Int) + 2) (row.length + 2) (by omega) (by omega)
  have HC2 := hid (hcut2 _ _ _ hpos)
  have hle2 : row.length + 2 ≤ pos.length := by omega
  have hle1 : row.length + 1 < pos.length := by omega
  clear hcut2
  obtain ⟨A, cap, rs, e, h1, h2, hrd, hls⟩ := hpos
  injection e with q1 q2 q3
  subst q1 q3
  have hlt : row.length < pos.length := by omega
  obtain ⟨g, o, rfl, hg, hi, c0⟩ := ints_at hrd hls hlt
  obtain rfl : pos[row.length] = x := by rw [List.getElem?_eq_getElem hlt] at hx; exact Option.some.inj hx
  have hg' : g < w.heap.size := hg
  obtain ⟨g', o', e', hgg, hi', c0'⟩ := ints_at hrd hls hle1
  injection e' with e'
  injection e' with e1' e2'
  subst e1' e2'
  obtain rfl : pos[row.length + 1] = y := by rw [List.getElem?_eq_getElem hle1] at hy; exact Option.some.inj hy
  have hw2 : IntKind.i64.wrap ((row.length : Int) + 1) = (row.length : Int) + 1 := IntWalk.i64_in _ (by omega)
  have ht1 : ((row.length : Int) + 1).toNat = row.length + 1 := by omega
  have hp1 : (0 : Int) ≤ (row.length : Int) + 1 := by omega
  have hp2 : (row.length : Int) + 1 < (pos.length : Int) := by omega
  have e1 : decide (pos.length ≤ row.length) = false := by simp; omega
  have e2 : ((pos.length : Int) == (row.length : Int) + 2) = false := by simp; omega
  have e4 : decide ((row.length : Int) + 1 < (pos.length : Int)) = true := by simp; omega
  have hw1 : IntKind.i64.wrap ((row.length : Int) + 2) = (row.length : Int) + 2 := IntWalk.i64_in _ (by omega)
  have hr1 : (row.length : Int) ≤ (pos.length : Int) := by omega
  have hr2 : (row.length : Int) < (pos.length : Int) := by omega
  clear hte hcut hd heq hrd hls hx hy hlen hw hgg hi' hle2 hg hi q2 h1 h2 hat hn hslot hpl hr
  go_enter Try.func37, Try.ntmps37
  go_wp2_with fail
  go_quiet ((go_at_call 57; exact Calls.quiet_of (HE.out _ (below_draw (((below_alloc _ _).trans ((below_alloc _ _).mono (by simp)))) _))))
  rw [drewN_alloc, drewN_alloc]
  generalize hw0 : w.drewN nq = w0
  have hz0 : w.heap.size = w0.heap.size := by rw [← hw0]; rfl
  have HB : Hid (Below w.heap.size w w0) := by rw [← hw0]; exact below_draw (Below.refl _ _) _
  have c1 : w0.cell? ⟨g, o + row.length, none⟩ = some (.int .i64 pos[row.length]) := by rw [← hw0]; exact c0
  have c2 : w0.cell? ⟨g, o + (row.length + 1), none⟩ = some (.int .i64 pos[row.length + 1]) := by rw [← hw0]; exact c0'
  have HC3 : Hid (IntsR w0 (Lt w0.heap.size) (pos.drop (row.length + 2)) (.slice A2 (pos.length - (row.length + 2)) (cp - (row.length + 2)))) := HC2.out.below HB.out HB.out.size
  rw [hz0] at hg'
  rw [hz0]
  have n1 : g < w0.heap.size + 1 := by omega
  have n2 : g < w0.heap.size + 1 + 1 := by omega
  clear hw0 c0 c0' HE hz0 HC2
  go_wp2_with fail
  go_region
  go_wp2_with fail
  rw [drew_alloc, drew_alloc, drew_alloc]
  generalize hw1' : w0.drew = w1
  have hz1 : w0.heap.size = w1.heap.size := by rw [← hw1']; rfl
  have HB1 : Hid (Below w.heap.size w w1) := by rw [← hw1']; exact HB.out.drew
  have HC4 : Hid (IntsR w1 (Lt w1.heap.size) (pos.drop (row.length + 2)) (.slice A2 (pos.length - (row.length + 2)) (cp - (row.length + 2)))) := by rw [← hw1']; exact HC3.out.keep (fun _ _ => rfl) (fun _ h => h)
  have c3 : w1.cell? ⟨g, o + (row.length + 1), none⟩ = some (.int .i64 pos[row.length + 1]) := by rw [← hw1']; exact c2
  rw [hz1] at hg' n1 n2 ⊢
  have n3 : g < w1.heap.size + 1 + 1 + 1 := by omega
  clear hw1' hz1 c1 c2 HC3 HB
  go_region
  go_wp2_with fail
  refine bodyPost_ret (v := .tuple #[.agg #[.int .i64 kind, .slice Ar row.length cr, .int .i64 at_, .int .i64 n, .slice An nodes.length cn, .int .i64 slot, .string old, .string text, .int .i64 nodes.length, .int .i64 pos[row.length], .bool true, .int .i64 pos[row.length + 1], .slice A2 (pos.length - (row.length + 2)) (cp - (row.length + 2))], .bool true]) (by simp [results, Try.results37, go_sem]) rfl ?_
  refine ⟨A2, cp - (row.length + 2), by simp only [placeC, List.length_drop], ?_, HB1.out.trans ((three_drew _ _ _ _).mono HB1.out.size)⟩
  rw [List.length_drop]
  exact HC4.out.keep (Same.of_below (three_drew _ _ _ _) (Nat.le_refl _)) (fun k hk => by unfold Lt at *; simp; omega)
end Go.Proofs.Yteckkamlaibjbaa
