/- Texts put together. -/
import Derived.Test.YtbjcioknfjofkaaGreatQb1399439dd
import Derived.Test.YtbjcioknfjofkaaGreatQ54c061e6e4
import Derived.Deep.QuietTactic
import Derived.BigQuiet
set_option linter.unusedVariables false
set_option linter.unusedSimpArgs false
set_option maxRecDepth 100000
namespace Go.Proofs.YtbjcioknfjofkaaGreat
open Go.RowKit
def zeroT:Tree:=.mk 0 ⟨#[]⟩ 0 []
def findS : Tree → List Int → Tree × Bool
  | t, i :: k :: p =>
    if hi : 0 ≤ i ∧ i.toNat < t.kids.length then
      if hk : 0 ≤ k ∧ k.toNat < (t.kids[i.toNat]'hi.2).kids.length then findS ((t.kids[i.toNat]'hi.2).kids[k.toNat]'hk.2) p else (zeroT, false)
    else (zeroT, false)
  | t, [] => (t, true)
  | t, [_] => (t, false)
theorem four {w:World} {b:Nat} {x0 x1 x2 x3:Value} (d0:w.cell? ⟨b,0,none⟩ = some x0) (d1:w.cell? ⟨b,1,none⟩ = some x1) (d2:w.cell? ⟨b,2,none⟩ = some x2) (d3:w.cell? ⟨b,3,none⟩ = some x3) (y0 y1 y2 y3:Value) {W:World}
  (hW:W = (((w.setCell ⟨b,0,none⟩ y0).setCell ⟨b,1,none⟩ y1).setCell ⟨b,2,none⟩ y2).setCell ⟨b,3,none⟩ y3) :
  (W.cell? ⟨b,0,none⟩ = some y0∧W.cell? ⟨b,1,none⟩ = some y1∧W.cell? ⟨b,2,none⟩ = some y2∧W.cell? ⟨b,3,none⟩ = some y3)∧W.heap.size = w.heap.size∧(∀ B a,B≤b→Below B a w→Below B a W) ∧
  (∀ p:Addr,p.block≠b→W.cell? p = w.cell? p)∧(∀ p:Addr,W.frozen? p = w.frozen? p):=by
 have o:∀ (i j:Nat),i≠j→(⟨b,i,none⟩:Addr)≠⟨b,j,none⟩:=fun i j h e=>h (by injection e)
 have f:∀ (p:Addr) (j:Nat),p.block≠b→(⟨b,j,none⟩:Addr)≠p:=fun p j h e=>h (by rw [← e])
 subst hW
 refine ⟨⟨?_,?_,?_,?_⟩,by simp [World.setCell],fun B a hB h=>(((h.setCell hB _).setCell hB _).setCell hB _).setCell hB _,fun p hp=>?_,fun p=>?_⟩
 ·rw [World.cell?_setCell_other (h:=o 3 0 (by decide)),World.cell?_setCell_other (h:=o 2 0 (by decide)),World.cell?_setCell_other (h:=o 1 0 (by decide)),World.cell?_setCell_same (h:=d0)]
 ·rw [World.cell?_setCell_other (h:=o 3 1 (by decide)),World.cell?_setCell_other (h:=o 2 1 (by decide))]
  exact World.cell?_setCell_same _ _ _ (by rw [World.cell?_setCell_other (h:=o 0 1 (by decide))];exact d1)
 ·rw [World.cell?_setCell_other (h:=o 3 2 (by decide))]
  exact World.cell?_setCell_same _ _ _ (by rw [World.cell?_setCell_other (h:=o 1 2 (by decide)),World.cell?_setCell_other (h:=o 0 2 (by decide))];exact d2)
 ·exact World.cell?_setCell_same _ _ _ (by rw [World.cell?_setCell_other (h:=o 2 3 (by decide)),World.cell?_setCell_other (h:=o 1 3 (by decide)),World.cell?_setCell_other (h:=o 0 3 (by decide))];exact d3)
 ·rw [World.cell?_setCell_other (h:=f p 3 hp),World.cell?_setCell_other (h:=f p 2 hp),World.cell?_setCell_other (h:=f p 1 hp),World.cell?_setCell_other (h:=f p 0 hp)]
 ·rw [World.frozen?_setCell,World.frozen?_setCell,World.frozen?_setCell,World.frozen?_setCell]
theorem below_allocR' (w:World) (o:Obj):Below w.heap.size w (w.alloc o):=blA w o
theorem bl_alloc {W X:World} (h:Below W.heap.size W X) (o:Obj):Below W.heap.size W (X.alloc o):=blAlloc h o
theorem na_c (W:World) (arr:Array Value) (T:TypeId) (b o:Nat) (hb:b = W.heap.size):(W.alloc (.cells arr T)).cell? ⟨b,o,none⟩ = arr[o]?:=newC W arr T b o hb
theorem na_f (W:World) (arr:Array Value) (T:TypeId) (b o:Nat) (hb:b = W.heap.size):(W.alloc (.cells arr T)).frozen? ⟨b,o,none⟩ = false:=newF W arr T b o hb
theorem old_c (W:World) (B:Obj) (b o:Nat) (x:Option Value) (hb:b < W.heap.size) (h:W.cell? ⟨b,o,none⟩ = x):(W.alloc B).cell? ⟨b,o,none⟩ = x:=oldC W B b o x hb h
theorem na2_c (W:World) (arr:Array Value) (T:TypeId) (B:Obj) (b o:Nat) (hb:b = W.heap.size):((W.alloc (.cells arr T)).alloc B).cell? ⟨b,o,none⟩ = arr[o]?:=by
 rw [(below_allocR' (W.alloc (.cells arr T)) B).cell (by simp;omega)];exact na_c W arr T b o hb
def rowRes (t:Tree) (p:List Int):Tree × Int:=if validS t = false then (zeroT,1) else if (findS t p).2 = false then (zeroT,8) else ((findS t p).1,0)
end Go.Proofs.YtbjcioknfjofkaaGreat
