/- posmap: insert, remove, wrap, unwrap, image: every test decided ahead of the walk. Written by wip/genplace.py. -/
import Derived.Test.YteckkamlaibjbaaPlace
import Derived.Deep.QuietTactic
import Derived.BigQuiet
set_option linter.unusedVariables false
set_option linter.unusedSimpArgs false
namespace Go.Proofs.Yteckkamlaibjbaa
open Go.RowKit

def insertS (p : PlaceD) (after : Bool) : List Int :=
  if p.index < p.op.at_ ∨ p.index = p.op.at_ ∧ p.inside = false ∧ after = false then behindS p [p.index] else behindS p [p.index + p.k]
def removeS (p : PlaceD) : List Int × Bool :=
  if p.index < p.op.at_ ∨ p.index = p.op.at_ ∧ p.inside = false then (behindS p [p.index], false)
  else if p.index < p.op.at_ + p.k then ([p.op.at_], true) else (behindS p [p.index - p.k], false)
def wrapS (p : PlaceD) (after : Bool) : List Int :=
  if p.inside = false ∧ p.index = p.op.at_ ∧ p.op.n = 0 ∧ after = true then [p.op.at_ + 1]
  else if p.index < p.op.at_ ∨ p.index = p.op.at_ ∧ p.inside = false then behindS p [p.index]
  else if p.index < p.op.at_ + p.op.n then behindS p [p.op.at_, p.op.slot, p.index - p.op.at_] else behindS p [p.index - p.op.n + 1]
def unwrapS (p : PlaceD) : List Int × Bool :=
  if p.index < p.op.at_ ∨ p.index = p.op.at_ ∧ p.inside = false then (behindS p [p.index], false)
  else if p.op.at_ < p.index then (behindS p [p.index - 1 + p.op.n], false)
  else if p.slot < p.op.slot then ([p.op.at_], true)
  else if p.op.slot < p.slot then ([p.op.at_ + p.op.n], true)
  else ((p.op.at_ + p.rest.headD 0) :: p.rest.tail, false)

def PairPost (w : World) (r : List Int × Bool) (e : Ending) (w' : World) : Prop := ∃ v, e = .returned (.tuple #[v, .bool r.2]) ∧ IntsR w' (Lt w'.heap.size) r.1 v ∧ Below w.heap.size w w'
theorem in64_of {x : Int} (h1 : -2305843009213693952 ≤ x) (h2 : x ≤ 2305843009213693952) : In64 x := by unfold In64; omega
theorem lit_post {w W0 : World} (hb0 : Below w.heap.size w W0) (xs : List Int) (hxs : ∀ x ∈ xs, In64 x) (hl : xs.length ≤ 1000) (n g : Nat) (hn : n = xs.length) (hg : g = W0.heap.size) (arr : Array Value) (harr : arr = (xs.map (Value.int .i64 ·)).toArray) :
    IntsR (W0.alloc (.cells arr 3)) (Lt (W0.alloc (.cells arr 3)).heap.size) xs (.slice (some ⟨g, 0, none⟩) n n) ∧ Below w.heap.size w (W0.alloc (.cells arr 3)) :=
  ⟨ints_lit W0 xs hxs (by unfold Lt; simp) arr n harr hn (by unfold maxLen; omega) _ g hg, hb0.trans ((below_alloc _ _).mono hb0.size)⟩

end Go.Proofs.Yteckkamlaibjbaa
