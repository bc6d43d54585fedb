/- Objects in blocks, through allocations and draws: words for regions whose allocations come in any order. -/
import Derived.Test.YtmahiejfniaahaaGreatDoorGR
import Derived.Test.YtmahiejfniaahaaGreatDoorGA
set_option linter.unusedVariables false
set_option linter.unusedSimpArgs false
set_option maxRecDepth 100000
namespace Go.Proofs.YtmahiejfniaahaaGreatDoor
open Go.RowKit
def HasObj (W : World) (g : Nat) (o : Obj) : Prop := W.heap[g]? = some o
theorem HasObj.lt {W : World} {g : Nat} {o : Obj} (h : HasObj W g o) : g < W.heap.size := (Array.getElem?_eq_some_iff.1 h).1
theorem HasObj.new (W : World) (o : Obj) (g : Nat) (hg : g = W.heap.size) : HasObj (W.alloc o) g o := heapNew W o g hg
theorem HasObj.al {W : World} {g : Nat} {o : Obj} (o' : Obj) (h : HasObj W g o) : HasObj (W.alloc o') g o := (Below.heap_alloc _ _ _ h.lt).trans h
theorem HasObj.dr {W : World} {g : Nat} {o : Obj} (h : HasObj W g o) : HasObj W.drew g o := h
theorem HasObj.at0 (W : World) (o : Obj) : HasObj (W.alloc o) W.heap.size o := HasObj.new W o _ rfl
theorem HasObj.at1 (W : World) (p o : Obj) : HasObj ((W.alloc p).alloc o) (W.heap.size + 1) o := HasObj.new _ o _ (by simp)
theorem HasObj.at2 (W : World) (p p' o : Obj) : HasObj (((W.alloc p).alloc p').alloc o) (W.heap.size + 1 + 1) o := HasObj.new _ o _ (by simp)
theorem HasObj.below {W W' : World} {g : Nat} {o : Obj} (h : HasObj W g o) (hb : Below W.heap.size W W') : HasObj W' g o := (hb.block g h.lt).trans h
theorem HasObj.grown {W W' : World} {g : Nat} {o : Obj} {row : Option Nat} (h : HasObj W g o) (hg : W.grownBy W' row) (hn : some g ≠ row) : HasObj W' g o := (hg.block g h.lt hn).trans h
theorem HasObj.cells {W : World} {g : Nat} {arr : Array Value} {T : TypeId} (h : HasObj W g (.cells arr T)) : BoxL W g 0 arr.toList ∧ FreeB W g := by
  unfold HasObj at h
  refine ⟨fun j u hu => ?_, fun j => ?_⟩
  · rw [Nat.zero_add, cell_of_row W g j arr T (0, 0) h]
    simpa using hu
  · simp [World.frozen?, h]
theorem own_emp {X : World} {g b : Nat} (h : HasObj X g (.cells #[] 3)) (hb : b ≤ g) : Owns X b [] (.slice (some ⟨g, 0, none⟩) 0 0) :=
  ⟨⟨by simp, .inr ⟨g, 0, #[], rfl, hb, h, Nat.le_refl _, by simp [maxLen], by simp, by simp⟩⟩, by simp⟩
theorem one_int {X : World} {g : Nat} {x : Int} (h : HasObj X g (.cells #[.int .i64 x] 3)) (hx : In64 x) : IntsR X (fun k => k = g) [x] (.slice (some ⟨g, 0, none⟩) 1 1) := by
  have hc := h.cells.1
  refine ⟨_, _, [.int .i64 x], rfl, Nat.le_refl _, by simp [maxLen], fun _ => ⟨g, 0, rfl, rfl, fun j u hu => ?_⟩, listR_int.2 ⟨rfl, by simpa using hx⟩⟩
  exact hc j u (by simpa using hu)
theorem own_ne {X : World} {g b : Nat} {xs : List Int} {v : Value} {arr : Array Value} {T : TypeId} (h : Owns X b xs v) (ho : HasObj X g (.cells arr T)) (hT : T ≠ 3) : some g ≠ v.ownBlock := by
  intro e
  rcases h.1.2 with ⟨rfl, _⟩ | ⟨g', cap, cur, rfl, _, hh, _⟩
  · simp [Value.ownBlock] at e
  · simp [Value.ownBlock] at e
    subst e
    unfold HasObj at ho
    rw [ho] at hh
    injection hh with hh
    injection hh with _ h2 _
    exact hT h2
theorem ints_ne {X : World} {g b : Nat} {xs : List Int} {v : Value} {arr : Array Value} {T : TypeId} (h : Owns X b xs v) (ho : HasObj X g (.cells arr T)) (hT : T ≠ 3) : IntsR X (fun k => b ≤ k ∧ k < X.heap.size ∧ k ≠ g) xs v :=
  SliceR.of_own (E := intE) h.1 (fun k hk => ⟨(h.1.lt k hk).1, (h.1.lt k hk).2, fun e => own_ne h ho hT (by rw [← e]; exact hk.symm)⟩) (listR_int.2 ⟨rfl, h.2⟩)
end Go.Proofs.YtmahiejfniaahaaGreatDoor
