/- Texts put together: Sel1, Sel2, Sel3, Pos1. -/
import Derived.Test.YtmahiejfniaahaaGreatDoorGQ
import Derived.Test.YtmahiejfniaahaaGreatDoorGR
import Derived.RegionTactic
import Derived.BigRegion
import Derived.IntWalk
import Derived.Deep.QuietTactic
import Derived.BigQuiet
import Derived.Deep.RegionHeld3
import Derived.Deep.DeepCutAuto
import Derived.Laws.StructEq
import Derived.Test.YtmahiejfniaahaaGreatDoorHH
set_option linter.unusedVariables false
set_option linter.unusedSimpArgs false
set_option maxRecDepth 100000
namespace Go.Proofs.YtmahiejfniaahaaGreatDoor
open Go.RowKit
end Go.Proofs.YtmahiejfniaahaaGreatDoor
set_option linter.unusedVariables false
set_option linter.unusedSimpArgs false
set_option maxRecDepth 100000
namespace Go.Proofs.YtmahiejfniaahaaGreatDoor
open Go.RowKit
theorem below_allocR' (w : World) (o : Obj) : Below w.heap.size w (w.alloc o) := (Below.refl _ _).alloc (Nat.le_refl _) _
theorem na_c (W : World) (arr : Array Value) (T : TypeId) (b o : Nat) (hb : b = W.heap.size) : (W.alloc (.cells arr T)).cell? ⟨b, o, none⟩ = arr[o]? := by subst hb; exact World.cell?_alloc_new _ _ _ _
theorem na_f (W : World) (arr : Array Value) (T : TypeId) (b o : Nat) (hb : b = W.heap.size) : (W.alloc (.cells arr T)).frozen? ⟨b, o, none⟩ = false := by subst hb; exact World.frozen?_alloc_new _ _ _ _
theorem old_c (W : World) (B : Obj) (b o : Nat) (x : Option Value) (hb : b < W.heap.size) (h : W.cell? ⟨b, o, none⟩ = x) : (W.alloc B).cell? ⟨b, o, none⟩ = x := ((below_allocR' W B).cell (p := ⟨b, o, none⟩) hb).trans h
theorem na2_c (W : World) (arr : Array Value) (T : TypeId) (B : Obj) (b o : Nat) (hb : b = W.heap.size) : ((W.alloc (.cells arr T)).alloc B).cell? ⟨b, o, none⟩ = arr[o]? := by
  rw [(below_allocR' (W.alloc (.cells arr T)) B).cell (by simp; omega)]; exact na_c W arr T b o hb
theorem bl_alloc {W X : World} (h : Below W.heap.size W X) (o : Obj) : Below W.heap.size W (X.alloc o) := h.alloc h.size o
theorem bl_call {W X Y : World} (h : Below W.heap.size W X) (hb : Below X.heap.size X Y) : Below W.heap.size W Y := h.trans (hb.mono h.size)
end Go.Proofs.YtmahiejfniaahaaGreatDoor
set_option linter.unusedVariables false
set_option linter.unusedSimpArgs false
set_option maxRecDepth 100000
namespace Go.Proofs.YtmahiejfniaahaaGreatDoor
open Go.RowKit
set_option maxHeartbeats 1000000 in
theorem posValid_any (t : Tree) (p : List Int) (A : Option Addr) (cap : Nat) (b : Value) (w : World) (hv : SliceR treeE w (Lt w.heap.size) t.kids (.slice A t.kids.length cap)) (htx : t.text.size ≤ maxLen) (hp : IntsR w (Lt w.heap.size) p b) :
    Calls Tryz.prog 38 #[.agg #[.int .i64 t.kind, .string t.text, .int .i64 t.cols, .slice A t.kids.length cap], b] w fun e w' => e = .returned (.bool (validS t && posIn t p)) ∧ Below w.heap.size w w' := by
  have hb0 : Below w.heap.size w (w.alloc (Obj.cells #[.int .i64 t.kind, .string t.text, .int .i64 t.cols, .slice A t.kids.length cap] 24)) := below_allocR' _ _
  have HB0 := hid hb0
  have C1 : Hid (∀ W, Below w.heap.size w W → Calls Tryz.prog 57 #[.agg #[.int .i64 t.kind, .string t.text, .int .i64 t.cols, .slice A t.kids.length cap]] W fun e w' => e = .returned (.bool (validS t)) ∧ Below W.heap.size W w') := fun W hW => nValid_any t A cap W (hv.below hW hW.size) htx
  have C2 : Hid (∀ W, Below w.heap.size w W → Calls Tryz.prog 76 #[.agg #[.int .i64 t.kind, .string t.text, .int .i64 t.cols, .slice A t.kids.length cap], b] W fun e w' => e = .returned (.bool (posIn t p)) ∧ Below W.heap.size W w') := fun W hW => in_any t p A cap b W (hv.below hW hW.size) htx (hp.below hW hW.size)
  have KB : Hid (∀ W, Below (w.alloc (Obj.cells #[.int .i64 t.kind, .string t.text, .int .i64 t.cols, .slice A t.kids.length cap] 24)).heap.size (w.alloc (Obj.cells #[.int .i64 t.kind, .string t.text, .int .i64 t.cols, .slice A t.kids.length cap] 24)) W → NBox W w.heap.size t.kind t.cols t.text (.slice A t.kids.length cap)) :=
    fun W hW => (NBox.new w t.kind t.cols t.text _).below hW (by simp)
  obtain ⟨A', cap', rfl⟩ := hp.form
  generalize posIn t p = b2 at *
  generalize validS t = b1 at *
  obtain ⟨tk, tx, tc, ts⟩ := t
  simp only [Tree.kind, Tree.text, Tree.cols, Tree.kids] at *
  clear hv htx hp hb0
  cases b1
  · go_enter Tryz.func38, Tryz.ntmps38
    go_wp2_with fail
    refine (C1.out _ HB0.out).mono ?_
    rintro e w1 ⟨rfl, hb1⟩
    have HB1 := hid (HB0.out.trans (hb1.mono HB0.out.size))
    clear hb1
    go_wp2_with fail
    go_ret
    exact ⟨rfl, HB1.out⟩
  · go_enter Tryz.func38, Tryz.ntmps38
    go_wp2_with fail
    refine (C1.out _ HB0.out).mono ?_
    rintro e w1 ⟨rfl, hb1⟩
    have HB1 := hid (HB0.out.trans (hb1.mono HB0.out.size))
    obtain ⟨p0, p1, p2, p3⟩ := KB.out w1 hb1
    clear hb1
    go_wp2_with fail
    refine (C2.out _ HB1.out).mono ?_
    rintro e w2 ⟨rfl, hb2⟩
    have HB2 := hid (HB1.out.trans (hb2.mono HB1.out.size))
    clear hb2 p0 p1 p2 p3
    go_wp2_with fail
    go_ret
    exact ⟨rfl, HB2.out⟩
def BetRes (w : World) (b1 b2 b3 : Bool) (r : List Int × Int × Int) (e : Ending) (w' : World) : Prop :=
  Below w.heap.size w w' ∧ ((b1 = false ∧ e = .returned (.tuple #[.agg #[.slice none 0 0, .int .i64 0, .int .i64 0], .int .i64 1])) ∨
    (b1 = true ∧ (b2 && b3) = false ∧ e = .returned (.tuple #[.agg #[.slice none 0 0, .int .i64 0, .int .i64 0], .int .i64 2])) ∨
    (b1 = true ∧ b2 = true ∧ b3 = true ∧ ∃ v, e = .returned (.tuple #[.agg #[v, .int .i64 r.2.1, .int .i64 r.2.2], .int .i64 0]) ∧ IntsR w' (fun k => w.heap.size ≤ k ∧ k < w'.heap.size) r.1 v))
end Go.Proofs.YtmahiejfniaahaaGreatDoor
set_option linter.unusedVariables false
set_option linter.unusedSimpArgs false
set_option maxRecDepth 100000
namespace Go.Proofs.YtmahiejfniaahaaGreatDoor
open Go.RowKit
def chkR (b1 b2 : Bool) : Int := if b1 then (if b2 then 0 else 2) else 1
set_option maxHeartbeats 1000000 in
theorem check_any (t : Tree) (p : List Int) (A : Option Addr) (cap : Nat) (b : Value) (w : World) (hv : SliceR treeE w (Lt w.heap.size) t.kids (.slice A t.kids.length cap)) (htx : t.text.size ≤ maxLen) (hp : IntsR w (Lt w.heap.size) p b) :
    Calls Tryz.prog 122 #[.agg #[.int .i64 t.kind, .string t.text, .int .i64 t.cols, .slice A t.kids.length cap], b] w fun e w' => e = .returned (.int .i64 (chkR (validS t) (posIn t p))) ∧ Below w.heap.size w w' := by
  have hb0 : Below w.heap.size w (w.alloc (Obj.cells #[.int .i64 t.kind, .string t.text, .int .i64 t.cols, .slice A t.kids.length cap] 24)) := below_allocR' _ _
  have HB0 := hid hb0
  have C1 : Hid (∀ W, Below w.heap.size w W → Calls Tryz.prog 57 #[.agg #[.int .i64 t.kind, .string t.text, .int .i64 t.cols, .slice A t.kids.length cap]] W fun e w' => e = .returned (.bool (validS t)) ∧ Below W.heap.size W w') := fun W hW => nValid_any t A cap W (hv.below hW hW.size) htx
  have C2 : Hid (∀ W, Below w.heap.size w W → Calls Tryz.prog 76 #[.agg #[.int .i64 t.kind, .string t.text, .int .i64 t.cols, .slice A t.kids.length cap], b] W fun e w' => e = .returned (.bool (posIn t p)) ∧ Below W.heap.size W w') := fun W hW => in_any t p A cap b W (hv.below hW hW.size) htx (hp.below hW hW.size)
  have KB : Hid (∀ W, Below (w.alloc (Obj.cells #[.int .i64 t.kind, .string t.text, .int .i64 t.cols, .slice A t.kids.length cap] 24)).heap.size (w.alloc (Obj.cells #[.int .i64 t.kind, .string t.text, .int .i64 t.cols, .slice A t.kids.length cap] 24)) W → NBox W w.heap.size t.kind t.cols t.text (.slice A t.kids.length cap)) :=
    fun W hW => (NBox.new w t.kind t.cols t.text _).below hW (by simp)
  obtain ⟨A', cap', rfl⟩ := hp.form
  generalize posIn t p = b2 at *
  generalize validS t = b1 at *
  obtain ⟨tk, tx, tc, ts⟩ := t
  simp only [Tree.kind, Tree.text, Tree.cols, Tree.kids] at *
  clear hv htx hp hb0
  cases b1
  · go_enter Tryz.func122, Tryz.ntmps122
    go_wp2_with fail
    refine (C1.out _ HB0.out).mono ?_
    rintro e w1 ⟨rfl, hb1⟩
    have HB1 := hid (HB0.out.trans (hb1.mono HB0.out.size))
    clear hb1
    go_wp2_with fail
    go_ret
    exact ⟨rfl, HB1.out⟩
  · go_enter Tryz.func122, Tryz.ntmps122
    go_wp2_with fail
    refine (C1.out _ HB0.out).mono ?_
    rintro e w1 ⟨rfl, hb1⟩
    have HB1 := hid (HB0.out.trans (hb1.mono HB0.out.size))
    obtain ⟨p0, p1, p2, p3⟩ := KB.out w1 hb1
    clear hb1
    go_wp2_with fail
    refine (C2.out _ HB1.out).mono ?_
    rintro e w2 ⟨rfl, hb2⟩
    have HB2 := hid (HB1.out.trans (hb2.mono HB1.out.size))
    clear hb2 p0 p1 p2 p3
    cases b2
    all_goals
      go_wp2_with fail
      go_ret
      exact ⟨rfl, HB2.out⟩
def PosRes (w : World) (r : List Int × Int) (e : Ending) (w' : World) : Prop :=
  Below w.heap.size w w' ∧ ∃ v, e = .returned (.tuple #[v, .int .i64 r.2]) ∧ IntsR w' (fun k => w.heap.size ≤ k ∧ k < w'.heap.size) r.1 v
end Go.Proofs.YtmahiejfniaahaaGreatDoor
