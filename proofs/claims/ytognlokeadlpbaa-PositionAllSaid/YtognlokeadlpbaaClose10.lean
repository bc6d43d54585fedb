/- An argument that is a number. -/
import Derived.Test.YtognlokeadlpbaaClose11
set_option linter.unusedVariables false
set_option linter.unusedSimpArgs false
set_option maxRecDepth 100000
namespace Go.Proofs.Ytognlokeadlpbaa
open Go.RowKit Go.ChangeShapes Go.WideShapes Go.ChangeAt

section
variable {H : Type} {enc : TypeId × Value → H} {w : World} {base : Nat} {spare : Nat → Bool} {held : Bool}
theorem open_intV {r : Reach} {b0 : Nat} {v : Value} {d : DataW H} {ps : List MemPlace} (hv : Value.okWide Try.prog w r b0 3 v) (h : DataW.Trod enc Try.prog w base spare held 3 v d ps) :
    ∃ x : Int, v = .int .i64 x ∧ In64 x := by
  obtain ⟨n, rfl⟩ := okWide_int Try.underlying3 hv
  obtain ⟨fuel, hf⟩ := h
  obtain ⟨x, hcs, hx⟩ := read_int hf
  have e : Value.int .i64 n = .int .i64 x := by simpa [Value.cells] using hcs
  cases e
  exact ⟨n, rfl, hx⟩
end
end Go.Proofs.Ytognlokeadlpbaa
