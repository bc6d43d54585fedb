/- Texts put together: Cells, InvG. -/
import Derived.Test.YteckkamlaibjbaaBase
import Derived.Test.YteckkamlaibjbaaGE
import Derived.Test.YteckkamlaibjbaaGA
/- Several cells of a block set one after the other; blocks whose cells are known. -/
set_option linter.unusedVariables false
set_option linter.unusedSimpArgs false
namespace Go.Proofs.Yteckkamlaibjbaa
open Go.RowKit

def setCells (w : World) (b o : Nat) : List Value → World
  | [] => w
  | v :: vs => setCells (w.setCell ⟨b, o, none⟩ v) b (o + 1) vs

/-- The cells of block b from o on. -/
def BoxL (w : World) (b o : Nat) (vs : List Value) : Prop := ∀ j u, vs[j]? = some u → w.cell? ⟨b, o + j, none⟩ = some u
structure SetL (w W : World) (b o : Nat) (vs : List Value) : Prop where
  at_ : BoxL W b o vs
  size : W.heap.size = w.heap.size
  below : ∀ B a, B ≤ b → Below B a w → Below B a W
  other : ∀ p : Addr, p.block ≠ b → W.cell? p = w.cell? p
  rest : ∀ j, j < o ∨ o + vs.length ≤ j → W.cell? ⟨b, j, none⟩ = w.cell? ⟨b, j, none⟩
  frozen : ∀ p : Addr, W.frozen? p = w.frozen? p

theorem setL (vs : List Value) : ∀ (w : World) (b o : Nat), (∀ j, j < vs.length → ∃ u, w.cell? ⟨b, o + j, none⟩ = some u) → SetL w (setCells w b o vs) b o vs := by
  induction vs with
  | nil => intro w b o _; exact ⟨fun j u h => by simp at h, rfl, fun _ _ _ h => h, fun _ _ => rfl, fun _ _ => rfl, fun _ => rfl⟩
  | cons v vs ih =>
    intro w b o hd
    have ne : ∀ (i j : Nat), i ≠ j → (⟨b, i, none⟩ : Addr) ≠ ⟨b, j, none⟩ := fun i j h e => h (by injection e)
    obtain ⟨u0, hu0⟩ := hd 0 (by simp)
    rw [Nat.add_zero] at hu0
    have h := ih (w.setCell ⟨b, o, none⟩ v) b (o + 1) (fun j hj => by
      obtain ⟨u, hu⟩ := hd (j + 1) (by simp; omega)
      exact ⟨u, by rw [World.cell?_setCell_other (h := ne _ _ (by omega)), show o + 1 + j = o + (j + 1) by omega]; exact hu⟩)
    refine ⟨fun j u hu => ?_, by rw [setCells, h.size]; simp [World.setCell], fun B a hB hb => h.below B a hB (hb.setCell hB _), fun p hp => ?_, fun j hj => ?_, fun p => ?_⟩
    · cases j with
      | zero =>
        simp at hu
        subst hu
        show (setCells (w.setCell ⟨b, o, none⟩ v) b (o + 1) vs).cell? ⟨b, o, none⟩ = some v
        rw [h.rest o (.inl (by omega))]
        exact World.cell?_setCell_same _ _ _ hu0
      | succ j =>
        have := h.at_ j u (by simpa using hu)
        rw [show o + (j + 1) = o + 1 + j by omega]
        exact this
    · rw [setCells, h.other p hp, World.cell?_setCell_other (h := fun e => hp (by rw [← e]))]
    · rw [setCells, h.rest j (by simp at hj; omega), World.cell?_setCell_other (h := ne _ _ (by simp at hj; omega))]
    · rw [setCells, h.frozen p, World.frozen?_setCell]

theorem BoxL.keep {w w' : World} {b o : Nat} {vs : List Value} (h : BoxL w b o vs) (hk : ∀ j, w'.cell? ⟨b, j, none⟩ = w.cell? ⟨b, j, none⟩) : BoxL w' b o vs := fun j u hu => (hk _).trans (h j u hu)
theorem BoxL.below {w w' : World} {b o B : Nat} {vs : List Value} (h : BoxL w b o vs) (hb : Below B w w') (hB : b < B) : BoxL w' b o vs := h.keep fun j => hb.cell (p := ⟨b, j, none⟩) hB
theorem BoxL.new (w : World) (arr : Array Value) (T : TypeId) (g : Nat) (hg : g = w.heap.size) (vs : List Value) (hv : vs = arr.toList) : BoxL (w.alloc (.cells arr T)) g 0 vs := by
  subst hg hv
  intro j u hu
  rw [Nat.zero_add, World.cell?_alloc_new]
  simpa using hu
theorem BoxL.has {w : World} {b o : Nat} {vs : List Value} (h : BoxL w b o vs) : ∀ j, j < vs.length → ∃ u, w.cell? ⟨b, o + j, none⟩ = some u := fun j hj => ⟨vs[j], h j _ (List.getElem?_eq_getElem hj)⟩
/-- No cell of the block is frozen. -/
def FreeB (w : World) (b : Nat) : Prop := ∀ j, w.frozen? ⟨b, j, none⟩ = false
theorem FreeB.below {w w' : World} {b B : Nat} (h : FreeB w b) (hb : Below B w w') (hB : b < B) : FreeB w' b := fun j => (hb.frozen (p := ⟨b, j, none⟩) hB).trans (h j)
theorem FreeB.new (w : World) (arr : Array Value) (T : TypeId) (g : Nat) (hg : g = w.heap.size) : FreeB (w.alloc (.cells arr T)) g := by
  subst hg
  intro j
  exact World.frozen?_alloc_new _ _ _ _
end Go.Proofs.Yteckkamlaibjbaa
/- ref12.Invert. Written by wip/geninv.py. -/
set_option linter.unusedVariables false
set_option linter.unusedSimpArgs false
set_option maxRecDepth 100000
namespace Go.Proofs.Yteckkamlaibjbaa
open Go.RowKit

set_option maxHeartbeats 8000000 in
theorem invert_any (op : OpD) (Ar An : Option Addr) (lr ln cr cn : Nat) (w : World) :
    Calls Try.prog 18 #[.agg (opC op (.slice Ar lr cr) (.slice An ln cn))] w fun e w' => e = .returned (.agg (opC (invS op) (.slice Ar lr cr) (.slice An ln cn))) ∧ Below w.heap.size w w' := by
  obtain ⟨kind, row, at_, n, nodes, slot, old, text⟩ := op
  by_cases h1 : kind = 1
  · subst h1
    simp only [opC, invS, reduceIte, Int.reduceEq]
    go_enter Try.func18, Try.ntmps18
    go_wp2_with fail
    refine bodyPost_ret (v := .agg #[.int .i64 2, .slice Ar lr cr, .int .i64 at_, .int .i64 n, .slice An ln cn, .int .i64 slot, .string old, .string text]) (by simp [results, Try.results18, go_sem]) rfl ⟨rfl, ?_⟩
    repeat (first | (refine Below.setCell ?_ (by simp) _))
    exact blAlloc (blA _ _) _
  by_cases h2 : kind = 2
  · subst h2
    simp only [opC, invS, reduceIte, Int.reduceEq]
    go_enter Try.func18, Try.ntmps18
    go_wp2_with fail
    refine bodyPost_ret (v := .agg #[.int .i64 1, .slice Ar lr cr, .int .i64 at_, .int .i64 n, .slice An ln cn, .int .i64 slot, .string old, .string text]) (by simp [results, Try.results18, go_sem]) rfl ⟨rfl, ?_⟩
    repeat (first | (refine Below.setCell ?_ (by simp) _))
    exact blAlloc (blA _ _) _
  by_cases h3 : kind = 3
  · subst h3
    simp only [opC, invS, reduceIte, Int.reduceEq]
    go_enter Try.func18, Try.ntmps18
    go_wp2_with fail
    refine bodyPost_ret (v := .agg #[.int .i64 4, .slice Ar lr cr, .int .i64 at_, .int .i64 n, .slice An ln cn, .int .i64 slot, .string old, .string text]) (by simp [results, Try.results18, go_sem]) rfl ⟨rfl, ?_⟩
    repeat (first | (refine Below.setCell ?_ (by simp) _))
    exact blAlloc (blA _ _) _
  by_cases h4 : kind = 4
  · subst h4
    simp only [opC, invS, reduceIte, Int.reduceEq]
    go_enter Try.func18, Try.ntmps18
    go_wp2_with fail
    refine bodyPost_ret (v := .agg #[.int .i64 3, .slice Ar lr cr, .int .i64 at_, .int .i64 n, .slice An ln cn, .int .i64 slot, .string old, .string text]) (by simp [results, Try.results18, go_sem]) rfl ⟨rfl, ?_⟩
    repeat (first | (refine Below.setCell ?_ (by simp) _))
    exact blAlloc (blA _ _) _
  by_cases h5 : kind = 5
  · subst h5
    simp only [opC, invS, reduceIte, Int.reduceEq]
    go_enter Try.func18, Try.ntmps18
    go_wp2_with fail
    refine bodyPost_ret (v := .agg #[.int .i64 5, .slice Ar lr cr, .int .i64 at_, .int .i64 n, .slice An ln cn, .int .i64 slot, .string text, .string old]) (by simp [results, Try.results18, go_sem]) rfl ⟨rfl, ?_⟩
    repeat (first | (refine Below.setCell ?_ (by simp) _))
    exact blAlloc (blA _ _) _
  have i1 : (kind == 1) = false := by simpa using h1
  have i2 : (kind == 2) = false := by simpa using h2
  have i3 : (kind == 3) = false := by simpa using h3
  have i4 : (kind == 4) = false := by simpa using h4
  have i5 : (kind == 5) = false := by simpa using h5
  simp only [opC, invS, h1, h2, h3, h4, h5, reduceIte]
  go_enter Try.func18, Try.ntmps18
  go_wp2_with fail
  refine bodyPost_ret (v := .agg #[.int .i64 kind, .slice Ar lr cr, .int .i64 at_, .int .i64 n, .slice An ln cn, .int .i64 slot, .string old, .string text]) (by simp [results, Try.results18, go_sem]) rfl ⟨rfl, ?_⟩
  repeat (first | (refine Below.setCell ?_ (by simp) _))
  exact blAlloc (blA _ _) _
end Go.Proofs.Yteckkamlaibjbaa
