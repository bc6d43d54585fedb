/- Texts put together: Sel1, Sel2, Sel3, Pos1. -/
import Derived.Test.YtmahiejfniaahaaDoorGQ
import Derived.Test.YtmahiejfniaahaaDoorGR
import Derived.RegionTactic
import Derived.BigRegion
import Derived.IntWalk
import Derived.Deep.QuietTactic
import Derived.BigQuiet
import Derived.Deep.RegionHeld3
import Derived.Deep.DeepCutAuto
import Derived.Laws.StructEq
import Derived.Test.YtmahiejfniaahaaDoorHH
/- selection.extentOf, ref11.ends. -/
set_option linter.unusedVariables false
set_option linter.unusedSimpArgs false
set_option maxRecDepth 100000
namespace Go.Proofs.YtmahiejfniaahaaDoor
open Go.RowKit

/-- The end of the least part that holds a rest of a position. -/
def extS (p : List Int) : Int := if p.length = 1 then p.headD 0 else p.headD 0 + 1

end Go.Proofs.YtmahiejfniaahaaDoor
/- selection.between. -/
set_option linter.unusedVariables false
set_option linter.unusedSimpArgs false
set_option maxRecDepth 100000
namespace Go.Proofs.YtmahiejfniaahaaDoor
open Go.RowKit

/-- How many numbers of two positions are common rows. -/
def comS : List Int → List Int → Nat
  | i :: s :: x :: a, j :: t :: y :: b => if i = j ∧ s = t then comS (x :: a) (y :: b) + 2 else 0
  | _, _ => 0
theorem comS_lt : ∀ (a b : List Int), 0 < a.length → 0 < b.length → comS a b < a.length ∧ comS a b < b.length
  | [], _, h, _ => by simp at h
  | _, [], _, h => by simp at h
  | [_], _ :: _, _, _ => by simp [comS]
  | [_, _], _ :: _, _, _ => by simp [comS]
  | _ :: _ :: _ :: _, [_], _, _ => by simp [comS]
  | _ :: _ :: _ :: _, [_, _], _, _ => by simp [comS]
  | i :: s :: x :: a, j :: t :: y :: b, _, _ => by
    rw [comS]
    split
    · have := comS_lt (x :: a) (y :: b) (by simp) (by simp)
      simp only [List.length_cons] at *; omega
    · simp
theorem comS_step {a b : List Int} {k : Nat} (h1 : k + 2 < a.length) (h2 : k + 2 < b.length) (h3 : a[k] = b[k]) (h4 : a[k + 1] = b[k + 1]) : comS (a.drop k) (b.drop k) = comS (a.drop (k + 2)) (b.drop (k + 2)) + 2 := by
  rw [List.drop_eq_getElem_cons (show k < a.length by omega), List.drop_eq_getElem_cons (show k + 1 < a.length by omega), List.drop_eq_getElem_cons (show k + 1 + 1 < a.length by omega),
    List.drop_eq_getElem_cons (show k < b.length by omega), List.drop_eq_getElem_cons (show k + 1 < b.length by omega), List.drop_eq_getElem_cons (show k + 1 + 1 < b.length by omega), comS, if_pos ⟨h3, h4⟩]
theorem comS_stop {a b : List Int} {k : Nat} (h : ¬ (k + 2 < a.length ∧ k + 2 < b.length)) : comS (a.drop k) (b.drop k) = 0 := by
  have h' : (a.drop k).length ≤ 2 ∨ (b.drop k).length ≤ 2 := by simp only [List.length_drop]; omega
  generalize a.drop k = x at *
  generalize b.drop k = y at *
  match x, y, h' with
  | [], _, _ => simp [comS]
  | [_], _, _ => simp [comS]
  | [_, _], _, _ => simp [comS]
  | _ :: _ :: _ :: _, [], _ => simp [comS]
  | _ :: _ :: _ :: _, [_], _ => simp [comS]
  | _ :: _ :: _ :: _, [_, _], _ => simp [comS]
  | _ :: _ :: _ :: _, _ :: _ :: _ :: _, h => simp at h
theorem below_allocR' (w : World) (o : Obj) : Below w.heap.size w (w.alloc o) := (Below.refl _ _).alloc (Nat.le_refl _) _
theorem comS_part {a b : List Int} {k : Nat} (h1 : k + 2 < a.length) (h2 : k + 2 < b.length) (h : ¬ (a[k] = b[k] ∧ a[k + 1] = b[k + 1])) : comS (a.drop k) (b.drop k) = 0 := by
  rw [List.drop_eq_getElem_cons (show k < a.length by omega), List.drop_eq_getElem_cons (show k + 1 < a.length by omega), List.drop_eq_getElem_cons (show k + 1 + 1 < a.length by omega),
    List.drop_eq_getElem_cons (show k < b.length by omega), List.drop_eq_getElem_cons (show k + 1 < b.length by omega), List.drop_eq_getElem_cons (show k + 1 + 1 < b.length by omega), comS, if_neg h]


theorem arrU : Tryd.prog.underlying 46 = some (.array 2 3) := by kernel_rfl
theorem arrAgg (w : World) : (isAgg 46).run Tryd.prog w = .ok true w := by kernel_rfl
theorem arrSize (w : World) : (Go.sizeOf 46).run Tryd.prog w = .ok 2 w := by kernel_rfl
theorem arrGuard : Tryd.prog.eqGuardType Tryd.prog.depth 46 = false := by kernel_rfl
theorem arr_at (g o : Nat) (w : World) (c : Nat) : (Instr.arrayAt 46 (.slice (some ⟨g, o, none⟩) 2 c)).run Tryd.prog w = .ok (.pointer (some ⟨g, o, none⟩)) w := by
  simp [Instr.arrayAt, run_underlying arrU]
theorem part3 (x y : Int) (w : World) : (part 3 #[.int .i64 x, .int .i64 y] 0).run Tryd.prog w = .ok (.int .i64 x) w ∧ (part 3 #[.int .i64 x, .int .i64 y] 1).run Tryd.prog w = .ok (.int .i64 y) w := ⟨by kernel_rfl, by kernel_rfl⟩
theorem arr_eq (x y u v : Int) (w : World) : (Op.equalIn 10000 46 (.agg #[.int .i64 x, .int .i64 y]) (.agg #[.int .i64 u, .int .i64 v])).run Tryd.prog w = .ok (x == u && y == v) w := by
  have h3 : Tryd.prog.underlying 3 = some (.int .i64) := by kernel_rfl
  have e1 := fun (d : Nat) (a b : Int) (w : World) => run_equalIn_int (P := Tryd.prog) w d 3 .i64 .i64 a b h3
  rw [show (10000 : Nat) = 9998 + 1 + 1 from rfl]
  cases h1 : (x == u) <;> cases h2 : (y == v) <;>
  simp [Op.equalIn.eq_def (9998 + 1 + 1), run_underlying arrU, size_int, intE, Std.Legacy.Range.forIn_eq_forIn_range', Std.Legacy.Range.size, List.range', part3, e1, h1, h2]

theorem below_dnS {B : Nat} {a w : World} (h : Below B a w) (n : Nat) : Below B a (w.drewN n) := ⟨h.os, h.tape, h.output, h.size, h.block⟩

/-- Element k of a list that comes in: its cell in every later world; the cut behind it. -/
theorem elem_at {a : List Int} {A : Option Addr} {ca : Nat} {w : World} (ha : IntsR w (Lt w.heap.size) a (.slice A a.length ca)) {k : Nat} (hk : k < a.length) :
    ∃ g o, A = some ⟨g, o, none⟩ ∧ g < w.heap.size ∧ (∀ W, Below w.heap.size w W → ∀ j, (h : j < a.length) → W.cell? ⟨g, o + j, none⟩ = some (.int .i64 a[j])) ∧ a.length ≤ ca ∧
      (∀ W, (Instr.slice 26 (.slice (some ⟨g, o, none⟩) a.length ca) (some (.int .i64 (k : Int))) none none).run Tryd.prog W = .ok (.slice (some ⟨g, o + k, none⟩) (a.length - k) (ca - k)) W) := by
  obtain ⟨_, _, rs, e, h1, h2, h3, h4⟩ := ha
  cases e
  obtain ⟨g, o, rfl, hg, _, c0⟩ := ints_at h3 h4 hk
  refine ⟨g, o, rfl, hg, fun W hW j hj => ?_, h1, fun W => ?_⟩
  · obtain ⟨g', o', e, hg', _, cj⟩ := ints_at h3 h4 hj
    cases e
    exact ((bcell hW).1 _ _ hg).trans cj
  · have he : Tryd.prog.elem 26 = 3 := by simp [Program.elem, Tryd.underlying26]
    rw [run_slice_l W 26 (some ⟨g, o, none⟩) a.length ca (by rw [he]; exact Tryd.underlying26) .i64 k (by omega) (by omega), he, size_int W]
    have hne : ca ≠ k := by omega
    simp [Result.andThen, sliced, intE, Addr.add, hne]
    try (intro h0; subst h0; simp)

/-- Two numbers of a list as an array. -/
theorem pair_run {n ca g o k : Nat} (h1 : k + 2 ≤ n) (h2 : n ≤ ca) (hc : ca ≤ 9223372036854775807) (W : World) :
    (Instr.slice 26 (.slice (some ⟨g, o, none⟩) n ca) (some (.int .i64 (k : Int))) (some (.int .i64 ((k : Int) + 2))) none).run Tryd.prog W = .ok (.slice (some ⟨g, o + k, none⟩) 2 (ca - k)) W := by
  have he : Tryd.prog.elem 26 = 3 := by simp [Program.elem, Tryd.underlying26]
  rw [run_slice_lh W 26 (some ⟨g, o, none⟩) n ca (by rw [he]; exact Tryd.underlying26) .i64 .i64 k (k + 2) (by omega) (by omega) (by omega), he, size_int W]
  have hne : ca ≠ k := by omega
  simp [Result.andThen, sliced, intE, Addr.add, hne]
  have h2' : ((k : Int) + 2).toNat - k = 2 := by omega
  first
    | exact h2'
    | exact ⟨h2', fun h0 => by subst h0; simp⟩
    | exact ⟨fun h0 => by subst h0; simp, h2'⟩
    | (intro h0; subst h0; simp)

def btS (a b : List Int) : List Int × Int × Int :=
  (a.take (comS a b), min (a.getD (comS a b) 0) (b.getD (comS a b) 0), max (extS (a.drop (comS a b))) (extS (b.drop (comS a b))))
def RangePost (w : World) (r : List Int × Int × Int) (e : Ending) (w' : World) : Prop :=
  ∃ v, e = .returned (.agg #[v, .int .i64 r.2.1, .int .i64 r.2.2]) ∧ IntsR w' (fun k => w.heap.size ≤ k ∧ k < w'.heap.size) r.1 v ∧ Below w.heap.size w w'

theorem na_c (W : World) (arr : Array Value) (T : TypeId) (b o : Nat) (hb : b = W.heap.size) : (W.alloc (.cells arr T)).cell? ⟨b, o, none⟩ = arr[o]? := by subst hb; exact World.cell?_alloc_new _ _ _ _
theorem na_f (W : World) (arr : Array Value) (T : TypeId) (b o : Nat) (hb : b = W.heap.size) : (W.alloc (.cells arr T)).frozen? ⟨b, o, none⟩ = false := by subst hb; exact World.frozen?_alloc_new _ _ _ _
theorem old_c (W : World) (B : Obj) (b o : Nat) (x : Option Value) (hb : b < W.heap.size) (h : W.cell? ⟨b, o, none⟩ = x) : (W.alloc B).cell? ⟨b, o, none⟩ = x := ((below_allocR' W B).cell (p := ⟨b, o, none⟩) hb).trans h
theorem old_f (W : World) (B : Obj) (b o : Nat) (hb : b < W.heap.size) (h : W.frozen? ⟨b, o, none⟩ = false) : (W.alloc B).frozen? ⟨b, o, none⟩ = false := ((below_allocR' W B).frozen (p := ⟨b, o, none⟩) hb).trans h
theorem na2_c (W : World) (arr : Array Value) (T : TypeId) (B : Obj) (b o : Nat) (hb : b = W.heap.size) : ((W.alloc (.cells arr T)).alloc B).cell? ⟨b, o, none⟩ = arr[o]? := by
  rw [(below_allocR' (W.alloc (.cells arr T)) B).cell (by simp; omega)]; exact na_c W arr T b o hb
theorem na2_f (W : World) (arr : Array Value) (T : TypeId) (B : Obj) (b o : Nat) (hb : b = W.heap.size) : ((W.alloc (.cells arr T)).alloc B).frozen? ⟨b, o, none⟩ = false := by
  rw [(below_allocR' (W.alloc (.cells arr T)) B).frozen (by simp; omega)]; exact na_f W arr T b o hb

theorem bl_set {W X : World} {b o : Nat} {v : Value} (h : Below W.heap.size W X) (hB : W.heap.size ≤ b) : Below W.heap.size W (X.setCell ⟨b, o, none⟩ v) := h.setCell (p := ⟨b, o, none⟩) hB v
theorem bl_alloc {W X : World} (h : Below W.heap.size W X) (o : Obj) : Below W.heap.size W (X.alloc o) := h.alloc h.size o
theorem bl_call {W X Y : World} (h : Below W.heap.size W X) (hb : Below X.heap.size X Y) : Below W.heap.size W Y := h.trans (hb.mono h.size)
theorem bl_dn {W X : World} {n : Nat} (h : Below W.heap.size W X) : Below W.heap.size W (X.drewN n) := ⟨h.os, h.tape, h.output, h.size, h.block⟩
theorem bl_drew {W X : World} (h : Below W.heap.size W X) : Below W.heap.size W X.drew := ⟨h.os, h.tape, h.output, h.size, h.block⟩
theorem below_of_drewS {w w' : World} {B : Nat} (h : Below B w.drew w') : Below B w w' := ⟨h.os, h.tape, h.output, h.size, h.block⟩
theorem three {w : World} {b : Nat} {x0 x1 x2 : Value} (d0 : w.cell? ⟨b, 0, none⟩ = some x0) (d1 : w.cell? ⟨b, 1, none⟩ = some x1) (d2 : w.cell? ⟨b, 2, none⟩ = some x2) (y0 y1 y2 : Value) {W : World}
    (hW : W = ((w.setCell ⟨b, 0, none⟩ y0).setCell ⟨b, 1, none⟩ y1).setCell ⟨b, 2, none⟩ y2) :
    (W.cell? ⟨b, 0, none⟩ = some y0 ∧ W.cell? ⟨b, 1, none⟩ = some y1 ∧ W.cell? ⟨b, 2, none⟩ = some y2) ∧ W.heap.size = w.heap.size ∧ (∀ B a, B ≤ b → Below B a w → Below B a W) ∧ (∀ p : Addr, p.block ≠ b → W.cell? p = w.cell? p) := by
  have o : ∀ (i j : Nat), i ≠ j → (⟨b, i, none⟩ : Addr) ≠ ⟨b, j, none⟩ := fun i j h e => h (by injection e)
  have f : ∀ (p : Addr) (j : Nat), p.block ≠ b → (⟨b, j, none⟩ : Addr) ≠ p := fun p j h e => h (by rw [← e])
  subst hW
  refine ⟨⟨?_, ?_, ?_⟩, by simp [World.setCell], fun B a hB h => ((h.setCell hB _).setCell hB _).setCell hB _, fun p hp => ?_⟩
  · rw [World.cell?_setCell_other (h := o 2 0 (by decide)), World.cell?_setCell_other (h := o 1 0 (by decide)), World.cell?_setCell_same (h := d0)]
  · rw [World.cell?_setCell_other (h := o 2 1 (by decide))]
    exact World.cell?_setCell_same _ _ _ (by rw [World.cell?_setCell_other (h := o 0 1 (by decide))]; exact d1)
  · exact World.cell?_setCell_same _ _ _ (by rw [World.cell?_setCell_other (h := o 1 2 (by decide)), World.cell?_setCell_other (h := o 0 2 (by decide))]; exact d2)
  · rw [World.cell?_setCell_other (h := f p 2 hp), World.cell?_setCell_other (h := f p 1 hp), World.cell?_setCell_other (h := f p 0 hp)]

end Go.Proofs.YtmahiejfniaahaaDoor
/- position.Valid, selection.Between. -/
set_option linter.unusedVariables false
set_option linter.unusedSimpArgs false
set_option maxRecDepth 100000
namespace Go.Proofs.YtmahiejfniaahaaDoor
open Go.RowKit

set_option maxHeartbeats 1000000 in
theorem posValid_any (t : Tree) (p : List Int) (A : Option Addr) (cap : Nat) (b : Value) (w : World) (hv : SliceR treeE w (Lt w.heap.size) t.kids (.slice A t.kids.length cap)) (htx : t.text.size ≤ maxLen) (hp : IntsR w (Lt w.heap.size) p b) :
    Calls Tryd.prog 32 #[.agg #[.int .i64 t.kind, .string t.text, .int .i64 t.cols, .slice A t.kids.length cap], b] w fun e w' => e = .returned (.bool (validS t && posIn t p)) ∧ Below w.heap.size w w' := by
  have hb0 : Below w.heap.size w (w.alloc (Obj.cells #[.int .i64 t.kind, .string t.text, .int .i64 t.cols, .slice A t.kids.length cap] 24)) := below_allocR' _ _
  have HB0 := hid hb0
  have C1 : Hid (∀ W, Below w.heap.size w W → Calls Tryd.prog 37 #[.agg #[.int .i64 t.kind, .string t.text, .int .i64 t.cols, .slice A t.kids.length cap]] W fun e w' => e = .returned (.bool (validS t)) ∧ Below W.heap.size W w') := fun W hW => nValid_any t A cap W (hv.below hW hW.size) htx
  have C2 : Hid (∀ W, Below w.heap.size w W → Calls Tryd.prog 50 #[.agg #[.int .i64 t.kind, .string t.text, .int .i64 t.cols, .slice A t.kids.length cap], b] W fun e w' => e = .returned (.bool (posIn t p)) ∧ Below W.heap.size W w') := fun W hW => in_any t p A cap b W (hv.below hW hW.size) htx (hp.below hW hW.size)
  have KB : Hid (∀ W, Below (w.alloc (Obj.cells #[.int .i64 t.kind, .string t.text, .int .i64 t.cols, .slice A t.kids.length cap] 24)).heap.size (w.alloc (Obj.cells #[.int .i64 t.kind, .string t.text, .int .i64 t.cols, .slice A t.kids.length cap] 24)) W → NBox W w.heap.size t.kind t.cols t.text (.slice A t.kids.length cap)) :=
    fun W hW => (NBox.new w t.kind t.cols t.text _).below hW (by simp)
  obtain ⟨A', cap', rfl⟩ := hp.form
  generalize posIn t p = b2 at *
  generalize validS t = b1 at *
  obtain ⟨tk, tx, tc, ts⟩ := t
  simp only [Tree.kind, Tree.text, Tree.cols, Tree.kids] at *
  clear hv htx hp hb0
  cases b1
  · go_enter Tryd.func32, Tryd.ntmps32
    go_wp2_with fail
    refine (C1.out _ HB0.out).mono ?_
    rintro e w1 ⟨rfl, hb1⟩
    have HB1 := hid (HB0.out.trans (hb1.mono HB0.out.size))
    clear hb1
    go_wp2_with fail
    go_ret
    exact ⟨rfl, HB1.out⟩
  · go_enter Tryd.func32, Tryd.ntmps32
    go_wp2_with fail
    refine (C1.out _ HB0.out).mono ?_
    rintro e w1 ⟨rfl, hb1⟩
    have HB1 := hid (HB0.out.trans (hb1.mono HB0.out.size))
    obtain ⟨p0, p1, p2, p3⟩ := KB.out w1 hb1
    clear hb1
    go_wp2_with fail
    refine (C2.out _ HB1.out).mono ?_
    rintro e w2 ⟨rfl, hb2⟩
    have HB2 := hid (HB1.out.trans (hb2.mono HB1.out.size))
    clear hb2 p0 p1 p2 p3
    go_wp2_with fail
    go_ret
    exact ⟨rfl, HB2.out⟩

def BetRes (w : World) (b1 b2 b3 : Bool) (r : List Int × Int × Int) (e : Ending) (w' : World) : Prop :=
  Below w.heap.size w w' ∧ ((b1 = false ∧ e = .returned (.tuple #[.agg #[.slice none 0 0, .int .i64 0, .int .i64 0], .int .i64 1])) ∨
    (b1 = true ∧ (b2 && b3) = false ∧ e = .returned (.tuple #[.agg #[.slice none 0 0, .int .i64 0, .int .i64 0], .int .i64 2])) ∨
    (b1 = true ∧ b2 = true ∧ b3 = true ∧ ∃ v, e = .returned (.tuple #[.agg #[v, .int .i64 r.2.1, .int .i64 r.2.2], .int .i64 0]) ∧ IntsR w' (fun k => w.heap.size ≤ k ∧ k < w'.heap.size) r.1 v))

theorem posIn_ok {t : Tree} {p : List Int} (hc : countS t ≤ 1000) (h : posIn t p = true) : 0 < p.length ∧ p.length ≤ 1000000 ∧ ∀ x ∈ p, 0 ≤ x ∧ x ≤ 1000000 := by
  obtain ⟨h1, h2⟩ := posIn_bd t p h
  have hd := depth_le_count t
  refine ⟨?_, by omega, fun x hx => ?_⟩
  · rcases p with _ | ⟨_, _⟩
    · simp [posIn] at h
    · simp
  · have := h2 x hx; omega

end Go.Proofs.YtmahiejfniaahaaDoor
/- position.check, First, Last. -/
set_option linter.unusedVariables false
set_option linter.unusedSimpArgs false
set_option maxRecDepth 100000
namespace Go.Proofs.YtmahiejfniaahaaDoor
open Go.RowKit

def chkR (b1 b2 : Bool) : Int := if b1 then (if b2 then 0 else 2) else 1
/-- A position in fresh memory, and an error. -/
def PosRes (w : World) (r : List Int × Int) (e : Ending) (w' : World) : Prop :=
  Below w.heap.size w w' ∧ ∃ v, e = .returned (.tuple #[v, .int .i64 r.2]) ∧ IntsR w' (fun k => w.heap.size ≤ k ∧ k < w'.heap.size) r.1 v

def firstR (t : Tree) : List Int × Int := if validS t then ([0], 0) else ([], 1)
def lastR (t : Tree) : List Int × Int := if validS t then ([(t.kids.length : Int)], 0) else ([], 1)
theorem ret_tuple {a b c d : Value} (h1 : a = c) (h2 : b = d) : Ending.returned (.tuple #[a, b]) = .returned (.tuple #[c, d]) := by rw [h1, h2]
end Go.Proofs.YtmahiejfniaahaaDoor
