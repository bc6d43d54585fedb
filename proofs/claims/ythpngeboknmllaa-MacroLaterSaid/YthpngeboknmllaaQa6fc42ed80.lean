/- Texts put together. -/
import Derived.Test.YthpngeboknmllaaQe06f35c01b
import Derived.Test.YthpngeboknmllaaQ31c220761e
import Derived.Test.YthpngeboknmllaaQ2925dd3ad5
import Derived.Test.YthpngeboknmllaaQc887edb4c0
import Derived.Deep.QuietTactic
import Derived.BigQuiet
import Derived.Deep.RegionHeld3
import Derived.IntWalk
set_option linter.unusedVariables false
set_option linter.unusedSimpArgs false
set_option maxRecDepth 100000
namespace Go.Proofs.Ythpngeboknmllaa
open Go.RowKit
theorem below_allocR (w:World) (o:Obj):Below w.heap.size w (w.alloc o):=(Below.refl _ _).alloc (Nat.le_refl _) _
def FreshIn (b:Nat) (w:World) (v:Value) (k:Nat):Prop:=b≤k∧k < w.heap.size∧some k≠v.ownBlock
theorem sameRefl (S:Nat→Prop) (w:World):Same S w w:=fun _ _=>rfl
section
variable {w:World} {b:Nat} {xss yss:List (List Int)} {v:Value}
end
end Go.Proofs.Ythpngeboknmllaa
namespace Go.Proofs.Ythpngeboknmllaa
theorem kids_le_count (t:Tree):t.kids.length + 1≤countS t:=by
 obtain ⟨_,_,_,ts⟩:=t
 simp only [Tree.kids]
 rw [countS]
 have:ts.length≤countsS ts:=by
  induction ts with
  | nil=>simp
  | cons u us ih=>obtain ⟨_,_,_,vs⟩:=u;rw [countsS,countS,List.length_cons];omega
 omega
end Go.Proofs.Ythpngeboknmllaa
