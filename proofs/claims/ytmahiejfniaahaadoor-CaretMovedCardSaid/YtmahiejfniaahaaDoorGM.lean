/- Texts put together: Row9, Row0. -/
import Derived.Test.YtmahiejfniaahaaDoorGI
import Derived.Test.YtmahiejfniaahaaDoorGJ
import Derived.Test.YtmahiejfniaahaaDoorGH
/- ref09.Row. -/
set_option linter.unusedVariables false
set_option linter.unusedSimpArgs false
set_option maxRecDepth 100000
namespace Go.Proofs.YtmahiejfniaahaaDoor
open Go.RowKit

def rowRes (t : Tree) (p : List Int) : Tree × Int := if validS t = false then (zeroT, 1) else if (findS t p).2 = false then (zeroT, 8) else ((findS t p).1, 0)
/-- A tree (its items in memory of the set S) and an error as results. -/
def RowP (S : Nat → Prop) (w : World) (k : Int) (x : ByteArray) (c : Int) (ts : List Tree) (er : Int) (e : Ending) (w' : World) : Prop :=
  ∃ v, e = .returned (.tuple #[.agg #[.int .i64 k, .string x, .int .i64 c, v], .int .i64 er]) ∧ SliceR treeE w' S ts v ∧ Below w.heap.size w w'

end Go.Proofs.YtmahiejfniaahaaDoor
/- node.Row. -/
set_option linter.unusedVariables false
set_option linter.unusedSimpArgs false
set_option maxRecDepth 100000
namespace Go.Proofs.YtmahiejfniaahaaDoor
open Go.RowKit

/-- What a path leads to is a node as any other. -/
theorem rowS_ok {w : World} {S : Nat → Prop} : (t : Tree) → (p : List Int) → (t' : Tree) → rowS t p = some t' → NodeOk t → (∃ v, SliceR treeE w S t.kids v) → NodeOk t' ∧ countS t' ≤ countS t
  | t, [], t', h, hok, _ => by
    simp [rowS] at h
    subst h
    exact ⟨hok, Nat.le_refl _⟩
  | t, [_], t', h, _, _ => by simp [rowS] at h
  | t, i :: k :: p, t', h, hok, hv => by
    rw [rowS] at h
    split at h
    · rename_i hi
      split at h
      · rename_i hk
        obtain ⟨v, A, cap, cs, rfl, _, _, _, hl⟩ := hv
        obtain ⟨c, _, hR, _⟩ := hl.at_ hi.2
        obtain ⟨v1, rfl, a1, a2, a3, hv1⟩ := treeR_mk.1 hR
        obtain ⟨A1, cap1, cs1, rfl, _, _, _, hl1⟩ := hv1
        obtain ⟨c1, _, hR1, _⟩ := hl1.at_ hk.2
        obtain ⟨v2, rfl, b1, b2, b3, hv2⟩ := treeR_mk.1 hR1
        obtain ⟨q1, q2⟩ := rowS_ok (w := w) (S := S) _ p t' h ⟨b1, b2, b3⟩ ⟨v2, hv2⟩
        refine ⟨q1, ?_⟩
        have e1 : countS t.kids[i.toNat] ≤ countS t := by
          rw [countS_kids t]
          have := countsS_take hi.2
          have := countsS_take_le t.kids (i.toNat + 1)
          omega
        have e2 : countS t.kids[i.toNat].kids[k.toNat] ≤ countS t.kids[i.toNat] := by
          rw [countS_kids t.kids[i.toNat]]
          have := countsS_take hk.2
          have := countsS_take_le t.kids[i.toNat].kids (k.toNat + 1)
          omega
        omega
      · cases h
    · cases h

/-- A tree and an error as results; the tree's items are new. -/
def RowQ (w : World) (x : Tree) (er : Int) (e : Ending) (w' : World) : Prop :=
  ∃ v, e = .returned (.tuple #[.agg #[.int .i64 x.kind, .string x.text, .int .i64 x.cols, v], .int .i64 er]) ∧ SliceR treeE w' (fun k => w.heap.size ≤ k ∧ k < w'.heap.size) x.kids v ∧ Below w.heap.size w w'

end Go.Proofs.YtmahiejfniaahaaDoor
