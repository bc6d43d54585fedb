/- Texts put together: Node5, Node6. -/
import Derived.Test.YtmahiejfniaahaaDoorGB
import Derived.Test.YtmahiejfniaahaaDoorHF
import Derived.Test.YtmahiejfniaahaaDoorGP
import Derived.Deep.RegionHeld3
/- ref09: form. -/
set_option linter.unusedVariables false
set_option linter.unusedSimpArgs false
namespace Go.Proofs.YtmahiejfniaahaaDoor
open Go.RowKit

mutual
def formS : Tree → Bool
  | .mk k s c ts => textS k s && kidsS k c ts.length && formsS k ts
def formsS (k : Int) : List Tree → Bool
  | [] => true
  | .mk k' s' c' ts' :: ts => !((k' == 1) == (k == 1)) && (textS k' s' && kidsS k' c' ts'.length && formsS k' ts') && formsS k ts
end
theorem formsS_cons (k : Int) (t : Tree) (ts : List Tree) : formsS k (t :: ts) = (!((t.kind == 1) == (k == 1)) && formS t && formsS k ts) := by
  obtain ⟨k', s', c', ts'⟩ := t
  rw [formsS, formS]; rfl
theorem formsS_drop (k : Int) {ts : List Tree} {i : Nat} (h : i < ts.length) : formsS k (ts.drop i) = (!((ts[i].kind == 1) == (k == 1)) && formS ts[i] && formsS k (ts.drop (i + 1))) := by
  rw [List.drop_eq_getElem_cons h, formsS_cons]

theorem below_drew_of {w w' : World} {B : Nat} (h : Below B w.drew w') : Below B w w' := ⟨h.os, h.tape, h.output, h.size, h.block⟩
theorem slice_drew {α : Type} {E : Enc α} {w : World} {xs : List α} {v : Value} (h : SliceR E w (Lt w.heap.size) xs v) : SliceR E w.drew (Lt w.drew.heap.size) xs v := h.keep (fun _ _ => rfl) (fun _ h => h)

end Go.Proofs.YtmahiejfniaahaaDoor
/- ref09: Valid, ToRow, ValidItems. -/
set_option linter.unusedVariables false
set_option linter.unusedSimpArgs false
namespace Go.Proofs.YtmahiejfniaahaaDoor
open Go.RowKit

def validS (t : Tree) : Bool := (t.kind == 1) && formS t && decide ((countS t : Int) ≤ 1000) && decide ((depthS t : Int) ≤ 24)

/-- The cells of a node in a block of its own. -/
def NBox (W : World) (b : Nat) (k c : Int) (s : ByteArray) (v : Value) : Prop :=
  W.cell? ⟨b, 0, none⟩ = some (.int .i64 k) ∧ W.cell? ⟨b, 1, none⟩ = some (.string s) ∧ W.cell? ⟨b, 2, none⟩ = some (.int .i64 c) ∧ W.cell? ⟨b, 3, none⟩ = some v
theorem NBox.new (w : World) (k c : Int) (s : ByteArray) (v : Value) : NBox (w.alloc (Obj.cells #[.int .i64 k, .string s, .int .i64 c, v] 24)) w.heap.size k c s v :=
  ⟨by rw [World.cell?_alloc_new]; rfl, by rw [World.cell?_alloc_new]; rfl, by rw [World.cell?_alloc_new]; rfl, by rw [World.cell?_alloc_new]; rfl⟩
theorem NBox.below {W W' : World} {B b : Nat} {k c : Int} {s : ByteArray} {v : Value} (h : NBox W b k c s v) (hb : Below B W W') (hB : b < B) : NBox W' b k c s v :=
  ⟨((bcell hb).1 _ _ hB).trans h.1, ((bcell hb).1 _ _ hB).trans h.2.1, ((bcell hb).1 _ _ hB).trans h.2.2.1, ((bcell hb).1 _ _ hB).trans h.2.2.2⟩

def rowT (ts : List Tree) : Tree := .mk 1 ⟨#[]⟩ 0 ts

end Go.Proofs.YtmahiejfniaahaaDoor
