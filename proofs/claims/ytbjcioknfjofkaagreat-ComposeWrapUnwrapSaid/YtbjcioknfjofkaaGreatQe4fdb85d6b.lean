/- Texts put together. -/
import Derived.Test.YtbjcioknfjofkaaGreatQ765e75d53c
set_option linter.unusedVariables false
set_option linter.unusedSimpArgs false
namespace Go.Proofs.YtbjcioknfjofkaaGreat
open Go.RowKit
def posW (rr:List Int) (ra:Int) (o:Option Int):List Int:=match o with
 | some s=>rr ++ [ra,s,0]
 | none=>rr ++ [ra + 1]
theorem wrap_cases (t:Tree) (p m:List Int) (item:Tree) (slot:Int):((validS t && formedS (wrapOp [] 0 0 [item] slot)) = false→cwrapS t p m item slot = (recZ,1)) ∧
  ((validS t && formedS (wrapOp [] 0 0 [item] slot)) = true→(ofS t p m).2≠0→cwrapS t p m item slot = (recZ,(ofS t p m).2)) ∧
  (∀ rr ra rb,(validS t && formedS (wrapOp [] 0 0 [item] slot)) = true→ofS t p m = ((rr,ra,rb),0)→cwrapS t p m item slot = doneR t p m [wrapOp rr ra (rb - ra) [item] slot] (posW rr ra (emptyS item.kids 0 slot (decide (rb - ra = 0)))) []):=by
 refine ⟨fun h=>?_,fun h h2=>?_,fun rr ra rb h h1=>?_⟩
 ·unfold cwrapS;rw [if_pos h]
 ·unfold cwrapS;rw [if_neg (by simp [h]),if_pos h2]
 ·unfold cwrapS
  rw [if_neg (by simp [h]),h1]
  simp only
  rw [if_neg (by simp)]
  rfl
theorem emptyS_drop {ks:List Tree} {k:Nat} (hk:k < ks.length) (slot:Int) (z:Bool):emptyS (ks.drop k) (k:Int) slot z = if ks[k].kids.length = 0∧((k:Int)≠slot∨z = true) then some (k:Int) else emptyS (ks.drop (k + 1)) ((k + 1:Nat):Int) slot z:=by
 rw [List.drop_eq_getElem_cons hk,emptyS]
 rfl
theorem emptyS_end {ks:List Tree} {k:Nat} (hk:ks.length≤k) (slot i:Int) (z:Bool):emptyS (ks.drop k) i slot z = none:=by
 rw [List.drop_of_length_le hk,emptyS]
end Go.Proofs.YtbjcioknfjofkaaGreat
