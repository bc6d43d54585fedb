/- Texts put together. -/
import Derived.Test.YtbjcioknfjofkaaGreatQ54c061e6e4
import Derived.Test.YtbjcioknfjofkaaGreatQ51d630fb2e
set_option linter.unusedVariables false
set_option linter.unusedSimpArgs false
set_option maxRecDepth 100000
namespace Go.Proofs.YtbjcioknfjofkaaGreat
open Go.RowKit
def kidS (t:Tree) (i:Int):Tree:=t.kids.getD i.toNat zeroT
def putS:Tree→List Int→List Tree→Tree
 | t,i :: k :: p,l=>replS t i.toNat (replS (kidS t i) k.toNat (putS (kidS (kidS t i) k) p l))
 | _,_,l=>rowT l
def NS (S:Nat→Prop) (b:Nat) (w:World) (q:Nat):Prop:=S q∨b≤q∧q < w.heap.size
theorem putS_ok (t:Tree) (p:List Int) (l:List Tree) (h:NodeOk t):NodeOk (putS t p l):=by
 match p with
 | []=>exact ⟨by simp [putS,rowT,Tree.kind,In64],by simp [putS,rowT,Tree.cols,In64],Nat.zero_le _⟩
 | [_]=>exact ⟨by simp [putS,rowT,Tree.kind,In64],by simp [putS,rowT,Tree.cols,In64],Nat.zero_le _⟩
 | i :: k :: p=>exact h
def templateS (l:List Tree) (slot:Int):Bool:=decide (l.length = 1) && (validS (rowT l) && (decide (0≤slot) && (decide (slot < (l.headD zeroT).kids.length) && decide ((kidS (l.headD zeroT) slot).kids.length = 0))))
end Go.Proofs.YtbjcioknfjofkaaGreat
