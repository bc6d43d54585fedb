/- Texts put together. -/
import Derived.Test.YtbjcioknfjofkaaGreatQ54c061e6e4
import Derived.Test.YtbjcioknfjofkaaGreatQ263fc88272
import Derived.Test.YtbjcioknfjofkaaGreatQ6080f80d97
set_option linter.unusedVariables false
set_option linter.unusedSimpArgs false
set_option maxRecDepth 100000
namespace Go.Proofs.YtbjcioknfjofkaaGreat
open Go.RowKit
def formedS (op:OpD):Bool :=
 if op.kind = 1∨op.kind = 2 then decide (0 < op.nodes.length) && (validS (rowT op.nodes) && (decide (op.n = 0) && (decide (op.slot = 0) && (op.old.toList.isEmpty && op.text.toList.isEmpty))))
 else if op.kind = 3∨op.kind = 4 then decide (0≤op.n) && (templateS op.nodes op.slot && (op.old.toList.isEmpty && op.text.toList.isEmpty))
 else if op.kind = 5 then (!(op.old.toList == op.text.toList)) && (decide (op.nodes.length = 0) && (decide (op.n = 0) && decide (op.slot = 0)))
 else false
def sameS (xs ys:List Tree):Bool:=xs.length == ys.length && eqsS xs ys
def needS (op:OpD):Int:=if op.kind = 1 then 0 else if op.kind = 2 then op.nodes.length else if op.kind = 3 then op.n else 1
def textKind (k:Int):Bool:=decide (k = 2∨k = 3∨k = 4∨k = 10∨k = 11)
def changeS (l : List Tree) (op : OpD) : List Tree × Int :=
  if op.at_ < 0 ∨ (l.length : Int) < op.at_ ∨ (l.length : Int) - op.at_ < needS op then ([], 2)
  else if op.kind = 1 then (spliceS l op.at_.toNat op.at_.toNat op.nodes, 0)
  else if op.kind = 2 then (if sameS ((l.take (op.at_ + op.nodes.length).toNat).drop op.at_.toNat) op.nodes = true then (spliceS l op.at_.toNat (op.at_ + op.nodes.length).toNat [], 0) else ([], 7))
  else if op.kind = 3 then (spliceS l op.at_.toNat (op.at_ + op.n).toNat [filledS (op.nodes.headD zeroT) op.slot.toNat ((l.take (op.at_ + op.n).toNat).drop op.at_.toNat)], 0)
  else if op.kind = 4 then
    (if (l.getD op.at_.toNat zeroT).kids.length ≤ op.slot ∨ ((kidS (l.getD op.at_.toNat zeroT) op.slot).kids.length : Int) ≠ op.n ∨ eqS (l.getD op.at_.toNat zeroT) (filledS (op.nodes.headD zeroT) op.slot.toNat (kidS (l.getD op.at_.toNat zeroT) op.slot).kids) = false then ([], 7)
     else (spliceS l op.at_.toNat (op.at_ + 1).toNat (kidS (l.getD op.at_.toNat zeroT) op.slot).kids, 0))
  else (if textKind (l.getD op.at_.toNat zeroT).kind = true ∧ ((l.getD op.at_.toNat zeroT).text.toList == op.old.toList) = true then (spliceS l op.at_.toNat (op.at_ + 1).toNat [.mk (l.getD op.at_.toNat zeroT).kind op.text (l.getD op.at_.toNat zeroT).cols (l.getD op.at_.toNat zeroT).kids], 0) else ([], 7))
def ChangeP (S:Nat→Prop) (w:World) (r:List Tree × Int) (e:Ending) (w':World):Prop :=
 ∃ v,e = .returned (.tuple #[v,.int .i64 r.2])∧SliceR treeE w' (fun q=>S q∨w.heap.size≤q∧q < w'.heap.size) r.1 v∧Below w.heap.size w w'
theorem template_one {l:List Tree} {slot:Int} (h:templateS l slot = true):∃ t,l = [t]∧0≤slot∧slot < t.kids.length∧(kidS t slot).kids.length = 0:=by
 unfold templateS at h
 simp only [Bool.and_eq_true,decide_eq_true_eq] at h
 obtain ⟨h1,_,h2,h3,h4⟩:=h
 obtain ⟨t,rfl⟩:=List.length_eq_one_iff.1 h1
 exact ⟨t,rfl,h2,h3,h4⟩
theorem bl_dnC {W X:World} {n:Nat} (h:Below W.heap.size W X):Below W.heap.size W (X.drewN n):=⟨h.os,h.tape,h.output,h.size,h.block⟩
theorem tree_lit {w W:World} {S:Nat→Prop} {b g:Nat} {k:Int} {x:ByteArray} {c:Int} {ts:List Tree} {v:Value} {T:TypeId} (hok:NodeOk (.mk k x c ts)) (h:SliceR treeE w (NS S b w) ts v) (hS:∀ q,S q→q < w.heap.size) (hb:b≤w.heap.size)
  (hW:Below (w.alloc (Obj.cells #[.int .i64 k,.string x,.int .i64 c,v] T)).heap.size (w.alloc (Obj.cells #[.int .i64 k,.string x,.int .i64 c,v] T)) W) (hg:g = w.heap.size):SliceR treeE W (NS S b W) [.mk k x c ts] (.slice (some ⟨g,0,none⟩) 1 1):=by
 subst hg
 have hs:(w.alloc (Obj.cells #[.int .i64 k,.string x,.int .i64 c,v] T)).heap.size = w.heap.size + 1:=by simp
 have hz:=hW.size
 have hkv:SliceR treeE W (NS S b W) ts v:=h.keep (fun q hq=>by
  have h9:q.block < w.heap.size:=by
   rcases hq with hq | hq
   ·exact hS _ hq
   ·exact hq.2
  exact (hW.cell (by omega)).trans ((blA w _).cell h9)) (fun q hq=>by
  rcases hq with hq | hq
  ·exact .inl hq
  ·exact .inr ⟨hq.1,by have:=hq.2;omega⟩)
 refine ⟨_,_,[.int .i64 k,.string x,.int .i64 c,v],rfl,Nat.le_refl _,by simp [maxLen],fun _=>⟨w.heap.size,0,rfl,.inr ⟨hb,by omega⟩,fun j u hu=>?_⟩,ListR.single (E:=treeE) (treeR_mk.2 ⟨v,rfl,hok.1,hok.2.1,hok.2.2,hkv⟩)⟩
 rw [Nat.zero_add,hW.cell (by show w.heap.size < _;omega),World.cell?_alloc_new]
 simpa using hu
def OpBox (W:World) (b:Nat) (op:OpD) (vr vn:Value):Prop :=
 W.cell? ⟨b,0,none⟩ = some (.int .i64 op.kind)∧W.cell? ⟨b,1,none⟩ = some vr∧W.cell? ⟨b,2,none⟩ = some (.int .i64 op.at_)∧W.cell? ⟨b,3,none⟩ = some (.int .i64 op.n) ∧
 W.cell? ⟨b,4,none⟩ = some vn∧W.cell? ⟨b,5,none⟩ = some (.int .i64 op.slot)∧W.cell? ⟨b,6,none⟩ = some (.string op.old)∧W.cell? ⟨b,7,none⟩ = some (.string op.text)
theorem OpBox.new (w:World) (op:OpD) (vr vn:Value) (T:TypeId):OpBox (w.alloc (.cells (opC op vr vn) T)) w.heap.size op vr vn:=by
 refine ⟨?_,?_,?_,?_,?_,?_,?_,?_⟩ <;> rw [World.cell?_alloc_new] <;> rfl
theorem OpBox.below {W W':World} {B b:Nat} {op:OpD} {vr vn:Value} (h:OpBox W b op vr vn) (hb:Below B W W') (hB:b < B):OpBox W' b op vr vn:=by
 obtain ⟨h0,h1,h2,h3,h4,h5,h6,h7⟩:=h
 have hk:∀ o,W'.cell? ⟨b,o,none⟩ = W.cell? ⟨b,o,none⟩:=fun o=>hb.cell (p:=⟨b,o,none⟩) hB
 exact ⟨(hk _).trans h0,(hk _).trans h1,(hk _).trans h2,(hk _).trans h3,(hk _).trans h4,(hk _).trans h5,(hk _).trans h6,(hk _).trans h7⟩
theorem kidsOld {w W:World} {S:Nat→Prop} {ts:List Tree} {v:Value} (h:SliceR treeE w S ts v) (hS:∀ q,S q→q < w.heap.size) (hb:Below w.heap.size w W):SliceR treeE W S ts v:=h.keep (fun q hq=>hb.cell (hS _ hq)) (fun _ h=>h)
theorem kidsLt {w W:World} {S:Nat→Prop} {ts:List Tree} {v:Value} (h:SliceR treeE w S ts v) (hS:∀ q,S q→q < w.heap.size) (hb:Below w.heap.size w W):SliceR treeE W (Lt W.heap.size) ts v:=h.keep (fun q hq=>hb.cell (hS _ hq)) (fun q hq=>Nat.lt_of_lt_of_le (hS _ hq) hb.size)
theorem countsS_len2 (ts:List Tree):ts.length≤countsS ts:=by
 induction ts with
 | nil=>simp
 | cons u us ih=>obtain ⟨_,_,_,vs⟩:=u;rw [countsS,countS,List.length_cons];omega
end Go.Proofs.YtbjcioknfjofkaaGreat
