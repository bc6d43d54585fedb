/- arrow.mover: end. Written by wip/genarr.py. -/
import Derived.Test.YtmahiejfniaahaaDoorArrMv
import Derived.Deep.RegionHeld3
set_option linter.unusedVariables false
set_option linter.unusedSimpArgs false
set_option maxRecDepth 100000
namespace Go.Proofs.YtmahiejfniaahaaDoor
open Go.RowKit

section
variable (tk : Int) (tx : ByteArray) (tc : Int) (tn cap : Nat) (A Ak As Ap : Option Addr) (kind size bw bh bd bx by_ of_ : Int) (name : ByteArray) (kn ck sn cs pn cp : Nat)

/-- Four cells of a node and their marks. -/
def Four_ (W : World) (g : Nat) (vs : List Value) : Prop := BoxL W g 0 vs ∧ FreeB W g ∧ g < W.heap.size
theorem Four_.new (w : World) (arr : Array Value) (T : TypeId) (g : Nat) (hg : g = w.heap.size) (vs : List Value) (hv : vs = arr.toList) : Four_ (w.alloc (.cells arr T)) g vs := ⟨BoxL.new w arr T g hg vs hv, FreeB.new w arr T g hg, by subst hg; simp⟩
theorem Four_.keep {W W' : World} {g : Nat} {vs : List Value} (h : Four_ W g vs) (hb : Below W.heap.size W W') : Four_ W' g vs := ⟨h.1.below hb h.2.2, h.2.1.below hb h.2.2, Nat.lt_of_lt_of_le h.2.2 hb.size⟩
theorem Four_.facts {W : World} {g : Nat} {a b c d : Value} (h : Four_ W g [a, b, c, d]) : W.cell? ⟨g, 0, none⟩ = some a ∧ W.cell? ⟨g, 1, none⟩ = some b ∧ W.cell? ⟨g, 2, none⟩ = some c ∧ W.cell? ⟨g, 3, none⟩ = some d ∧ W.frozen? ⟨g, 0, none⟩ = false ∧ W.frozen? ⟨g, 1, none⟩ = false ∧ W.frozen? ⟨g, 2, none⟩ = false ∧ W.frozen? ⟨g, 3, none⟩ = false := by
  obtain ⟨h1, h2, _⟩ := h
  refine ⟨h1 0 _ rfl, ?_, ?_, ?_, h2 _, h2 _, h2 _, h2 _⟩
  · simpa using h1 1 _ rfl
  · simpa using h1 2 _ rfl
  · simpa using h1 3 _ rfl
/-- .. set anew. -/
theorem Four_.set {W : World} {g B : Nat} {a : World} {u0 u1 u2 u3 : Value} (h : Four_ W g [u0, u1, u2, u3]) (x0 x1 x2 x3 : Value) (hB : B ≤ g) (hb : Below B a W) : ((((W.setCell ⟨g, 0, none⟩ x0).setCell ⟨g, 1, none⟩ x1).setCell ⟨g, 2, none⟩ x2).setCell ⟨g, 3, none⟩ x3).cell? ⟨g, 3, none⟩ = some x3 ∧ Below B a ((((W.setCell ⟨g, 0, none⟩ x0).setCell ⟨g, 1, none⟩ x1).setCell ⟨g, 2, none⟩ x2).setCell ⟨g, 3, none⟩ x3) := by
  have hs := setL [x0, x1, x2, x3] W g 0 (fun j hj => h.1.has j (by simpa using hj))
  exact ⟨hs.at_ 3 _ rfl, hs.below B a hB hb⟩

end
end Go.Proofs.YtmahiejfniaahaaDoor
