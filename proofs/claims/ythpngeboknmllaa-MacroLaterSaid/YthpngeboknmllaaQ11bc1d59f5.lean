/- Texts put together. -/
import Derived.Test.YthpngeboknmllaaQf30ca507da
import Derived.Test.YthpngeboknmllaaQ30b8250c09
set_option linter.unusedVariables false
set_option linter.unusedSimpArgs false
set_option maxRecDepth 100000
namespace Go.Proofs.Ythpngeboknmllaa
open Go.RowKit
theorem blA (w:World) (o:Obj):Below w.heap.size w (w.alloc o):=(Below.refl _ _).alloc (Nat.le_refl _) _
theorem blAlloc {W X:World} (h:Below W.heap.size W X) (o:Obj):Below W.heap.size W (X.alloc o):=h.alloc h.size o
theorem HasObj.cell {W:World} {g:Nat} {arr:Array Value} {T:TypeId} (h:HasObj W g (.cells arr T)):∀ j,W.cell? ⟨g,j,none⟩ = arr[j]?:=fun j=>cell_of_row W g j arr T (0,0) h
theorem HasObj.free {W:World} {g:Nat} {arr:Array Value} {T:TypeId} (h:HasObj W g (.cells arr T)):∀ j,W.frozen? ⟨g,j,none⟩ = false:=fun j=>by unfold HasObj at h;simp [World.frozen?,h]
theorem HasObj.set {W:World} {g i:Nat} {arr:Array Value} {T:TypeId} (h:HasObj W g (.cells arr T)) (v:Value):HasObj (W.setCell ⟨g,i,none⟩ v) g (.cells (arr.setIfInBounds i v) T):=heap_setCell_same W g i arr T v h
theorem HasObj.far {W:World} {g g' i:Nat} {o:Obj} (h:HasObj W g o) (v:Value) (hne:g≠g'):HasObj (W.setCell ⟨g',i,none⟩ v) g o:=(Below.heap_setCell W ⟨g',i,none⟩ v g hne).trans h
theorem HasObj.belowB {W W':World} {g B:Nat} {o:Obj} (h:HasObj W g o) (hb:Below B W W') (hg:g < B):HasObj W' g o:=(hb.block g hg).trans h
theorem HasObj.row {W:World} {g:Nat} {arr:Array Value} {T:TypeId} (h:HasObj W g (.cells arr T)) (cs:Array Value):HasObj (W.setRow g cs) g (.cells cs T):=setRow_heap W g arr cs T (0,0) h
theorem HasObj.farRow {W:World} {g g':Nat} {o:Obj} (h:HasObj W g o) (cs:Array Value) (hne:g≠g'):HasObj (W.setRow g' cs) g o:=(setRow_other _ _ _ _ hne).trans h
theorem below_setRowB {B:Nat} {w W:World} (h:Below B w W) {g:Nat} (hg:B≤g) (cs:Array Value):Below B w (W.setRow g cs):=⟨h.os,h.tape,h.output,by rw [size_setRow];exact h.size,fun k hk=>by rw [setRow_other _ _ _ _ (by omega)];exact h.block k hk⟩
theorem four9 {W:World} {g:Nat} {T:TypeId} {x0 x1 x2 x3:Value} (h:HasObj W g (.cells #[x0,x1,x2,x3] T)):W.cell? ⟨g,0,none⟩ = some x0∧W.cell? ⟨g,1,none⟩ = some x1∧W.cell? ⟨g,2,none⟩ = some x2∧W.cell? ⟨g,3,none⟩ = some x3:=⟨h.cell 0,h.cell 1,h.cell 2,h.cell 3⟩
structure Kept (N:Nat→Prop) (w w':World):Prop where
 os:w'.os = w.os
 tape:w'.tape = w.tape
 output:w'.output = w.output
 size:w.heap.size≤w'.heap.size
 block:∀ k,k < w.heap.size→¬ N k→w'.heap[k]? = w.heap[k]?
theorem Kept.cell {N:Nat→Prop} {w w':World} (h:Kept N w w') {p:Addr} (hp:p.block < w.heap.size) (hn:¬ N p.block):w'.cell? p = w.cell? p:=World.cell?_of_block (h.block _ hp hn)
theorem Kept.below {N:Nat→Prop} {w w':World} (h:Kept N w w') {B:Nat} (hB:B≤w.heap.size) (hn:∀ k,N k→B≤k):Below B w w':=⟨h.os,h.tape,h.output,h.size,fun k hk=>h.block k (Nat.lt_of_lt_of_le hk hB) (fun e=>absurd (hn k e) (by omega))⟩
theorem Kept.trans {N N':Nat→Prop} {w w1 w':World} (h:Kept N w w1) (k:Kept N' w1 w'):Kept (fun b=>N b∨N' b) w w':=⟨k.os.trans h.os,k.tape.trans h.tape,k.output.trans h.output,Nat.le_trans h.size k.size,fun b hb hn=>(k.block b (Nat.lt_of_lt_of_le hb h.size) (fun e=>hn (.inr e))).trans (h.block b hb (fun e=>hn (.inl e)))⟩
theorem Kept.of_below {w w':World} (h:Below w.heap.size w w') (N:Nat→Prop):Kept N w w':=⟨h.os,h.tape,h.output,h.size,fun k hk _=>h.block k hk⟩
theorem Kept.grown {w w':World} {row:Option Nat} (h:w.grownBy w' row):Kept (fun k=>some k = row) w w':=⟨h.os,h.tape,h.output,h.size,fun k hk hn=>h.block k hk (fun e=>hn e)⟩
theorem Kept.set (w:World) (a:Addr) (v:Value):Kept (fun k=>k = a.block) w (w.setCell a v):=⟨rfl,rfl,rfl,by simp [World.setCell],fun k _ hn=>Below.heap_setCell w a v k hn⟩
theorem Kept.setRow (w:World) (g:Nat) (cs:Array Value):Kept (fun k=>k = g) w (w.setRow g cs):=⟨rfl,rfl,rfl,by rw [size_setRow];exact Nat.le_refl _,fun k _ hn=>setRow_other _ _ _ _ hn⟩
theorem Kept.mono {N N':Nat→Prop} {w w':World} (h:Kept N w w') (hn:∀ k,k < w.heap.size→N k→N' k):Kept N' w w':=⟨h.os,h.tape,h.output,h.size,fun k hk hk'=>h.block k hk (fun e=>hk' (hn k hk e))⟩
theorem Kept.trans' {N:Nat→Prop} {w W X:World} (h:Kept N w W) (k:Kept N W X):Kept N w X:=(h.trans k).mono (fun _ _ e=>e.elim id id)
theorem Kept.next {N N':Nat→Prop} {w W X:World} (h:Kept N w W) (k:Kept N' W X) (hn:∀ k,k < w.heap.size→N' k→N k):Kept N w X:=(h.trans k).mono (fun q hq e=>e.elim id (hn q hq))
theorem Kept.of_belowB {b:Nat} {w w':World} (h:Below b w w') (hs:w.heap.size≤w'.heap.size) {N:Nat→Prop} (hn:∀ k,b≤k→N k):Kept N w w':=⟨h.os,h.tape,h.output,hs,fun k _ hk=>h.block k (Nat.lt_of_not_le (fun e=>hk (hn k e)))⟩
theorem Kept.obj {N:Nat→Prop} {w w':World} {g:Nat} {o:Obj} (h:Kept N w w') (ho:HasObj w g o) (hn:¬ N g):HasObj w' g o:=(h.block g ho.lt hn).trans ho
theorem Kept.al {N:Nat→Prop} {w W:World} (h:Kept N w W) (o:Obj):Kept N w (W.alloc o):=h.trans' (Kept.of_below (blA _ _) _)
theorem Kept.reads {N:Nat→Prop} {w w':World} (h:Kept N w w') {S S':Nat→Prop} {α:Type} {E:Enc α} {xs:List α} {v:Value} (hr:SliceR E w S xs v) (hS:∀ k,S k→k < w.heap.size∧¬ N k) (hS':∀ k,S k→S' k):SliceR E w' S' xs v :=
 hr.keep (fun p hp=>h.cell (hS _ hp).1 (hS _ hp).2) hS'
theorem OwnTrees.kept {w w':World} {b:Nat} {ts:List Tree} {v:Value} (h:OwnTrees w b ts v) {N:Nat→Prop} (hk:Kept N w w') (hN:∀ k,b≤k→¬ N k):OwnTrees w' b ts v:=by
 obtain ⟨cs,⟨hl,h1⟩,h2⟩:=h
 refine ⟨cs,⟨hl,?_⟩,h2.keep (fun p hp=>hk.cell hp.2.1 (hN _ hp.1)) (fun k hk'=>⟨hk'.1,Nat.lt_of_lt_of_le hk'.2.1 hk.size,hk'.2.2⟩)⟩
 rcases h1 with h1 | ⟨g',cap,cur,rfl,hbg,hh,p1,p2,p3,p4⟩
 ·exact .inl h1
 ·refine .inr ⟨g',cap,cur,rfl,hbg,?_,p1,p2,p3,p4⟩
  rw [hk.block g' (Array.getElem?_eq_some_iff.1 hh).1 (hN _ hbg)]
  exact hh
theorem stepO {w:World} {b:Nat} {xss:List Tree} {x:Tree} {v:Value} {ops:Array Oper} {o:Oper} {a:Act} {K:Act→World→Prop} {Q:Exit→Act→World→Prop} {E0:Prop} (hgd:o.guard = none) (s y:Operand)
  (ho:o.op = .call { callee:=.builtin .append,args:=#[s,y],argTypes:=#[23,23] })
  (hs:a.eval s = v) (hown:OwnTrees w b xss v) {g:Nat} {cs:List Value} (hy:a.eval y = .slice (some ⟨g,0,none⟩) 1 1) (h8:HasObj w g (.cells cs.toArray 31)) (hx:treeE.R w (FreshIn b w v) x cs)
  (hbound:xss.length≤100000000) (hb:b≤w.heap.size)
  (h:∀ v' w',OwnTrees w' b (xss ++ [x]) v'→Below b w w'→w.heap.size≤w'.heap.size→K (a.put o.dst v') w') :
  if Region.wanted o (yielded ops a.tmps) = true then Oper.wp Try.prog o a w K Q else E0:=by
 obtain ⟨i0,hi0,hz0,hz1,hz2⟩:=nodeInfo'
 obtain ⟨ds,ho1,ho2⟩:=hown
 have hls:ListR treeE w (FreshIn b w v) [x] cs:=ListR.single hx
 have hl:=hls.len
 refine step_append_any w hgd s y 23 ho b 31 i0 _ 4 56 Try.underlying23 hi0 hz0 hz1 hz2 rfl (by omega) v _ _ hs ho1 (fun k=>k = g) (some ⟨g,0,none⟩) 1 1 cs hy hl (fun _=>⟨g,0,rfl,rfl,fun j u hu=>by rw [Nat.zero_add];exact (h8.cell j).trans (by simpa using hu)⟩) hls.one (by simp only [maxLen];omega) (by omega) hb ?_
 intro v' w' h3 h4 h5
 exact h v' w' (trees_grown ho1 ho2 hls h3 h4 h5) (below_of_grown _ ho1 h4 hb) h4.size
section
variable {w1 X:World} {old cs:Array Value} {T:TypeId} (hX:(w1.alloc (.cells old T)).setRow w1.heap.size cs = X)
include hX
theorem put0:HasObj X w1.heap.size (.cells cs T):=by rw [← hX];exact (HasObj.at0 w1 _).row _
theorem putB:Below w1.heap.size w1 X:=by rw [← hX];exact below_setRowB (blA w1 _) (Nat.le_refl _) _
end
end Go.Proofs.Ythpngeboknmllaa
