/- Texts put together. -/
import Derived.Test.YtbjcioknfjofkaaGreatMComposeReinsert7
import Derived.Test.YtbjcioknfjofkaaGreatMComposeReinsert8
set_option linter.unusedVariables false
set_option linter.unusedSimpArgs false
set_option maxRecDepth 100000
namespace Go.Proofs.YtbjcioknfjofkaaGreat
open Go.RowKit
def kidS (t:Tree) (i:Int):Tree:=t.kids.getD i.toNat zeroT
def putS:Tree→List Int→List Tree→Tree
 | t,i :: k :: p,l=>replS t i.toNat (replS (kidS t i) k.toNat (putS (kidS (kidS t i) k) p l))
 | _,_,l=>rowT l
def NS (S:Nat→Prop) (b:Nat) (w:World) (q:Nat):Prop:=S q∨b≤q∧q < w.heap.size
theorem NS.keep {S:Nat→Prop} {b:Nat} {w w':World} {l:List Tree} {v:Value} (h:SliceR treeE w (NS S b w) l v) (hS:∀ q,S q→q < w.heap.size) (hb:Below w.heap.size w w'):SliceR treeE w' (NS S b w') l v:=newer h hS hb
theorem TreeP.ns {S:Nat→Prop} {b:Nat} {W w':World} {t:Tree} {e:Ending} (h:TreeP S W t e w') (hb:b≤W.heap.size):∃ v,e = .returned (.agg #[.int .i64 t.kind,.string t.text,.int .i64 t.cols,v])∧SliceR treeE w' (NS S b w') t.kids v∧Below W.heap.size W w':=by
 obtain ⟨v,h1,h2,h3⟩:=h
 exact ⟨v,h1,h2.keep (fun _ _=>rfl) (fun q hq=>by rcases hq with hq | hq;exact .inl hq;exact .inr ⟨by omega,hq.2⟩),h3⟩
theorem putS_ok (t:Tree) (p:List Int) (l:List Tree) (h:NodeOk t):NodeOk (putS t p l):=by
 match p with
 | []=>exact ⟨by simp [putS,rowT,Tree.kind,In64],by simp [putS,rowT,Tree.cols,In64],Nat.zero_le _⟩
 | [_]=>exact ⟨by simp [putS,rowT,Tree.kind,In64],by simp [putS,rowT,Tree.cols,In64],Nat.zero_le _⟩
 | i :: k :: p=>exact h
def templateS (l:List Tree) (slot:Int):Bool:=decide (l.length = 1) && (validS (rowT l) && (decide (0≤slot) && (decide (slot < (l.headD zeroT).kids.length) && decide ((kidS (l.headD zeroT) slot).kids.length = 0))))
end Go.Proofs.YtbjcioknfjofkaaGreat
