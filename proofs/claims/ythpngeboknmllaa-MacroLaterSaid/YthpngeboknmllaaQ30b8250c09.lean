/- Texts put together. -/
import Derived.Test.YthpngeboknmllaaQa6fc42ed80
import Derived.Test.YthpngeboknmllaaQ19417c32a3
set_option linter.unusedVariables false
set_option linter.unusedSimpArgs false
set_option maxRecDepth 100000
namespace Go.Proofs.Ythpngeboknmllaa
open Go.RowKit
def OwnTrees (w:World) (b:Nat) (ts:List Tree) (v:Value):Prop:=∃ cs,w.ownsRow b 31 4 v ts.length cs∧ListR treeE w (FreshIn b w v) ts cs
theorem OwnTrees.rows {w:World} {b:Nat} {ts:List Tree} {v:Value} (h:OwnTrees w b ts v):SliceR treeE w (fun k=>b≤k∧k < w.heap.size) ts v:=by
 obtain ⟨cs,h1,h2⟩:=h
 exact SliceR.of_own (E:=treeE) h1 (fun k hk=>⟨(h1.lt k hk).1,(h1.lt k hk).2⟩) (h2.keep (sameRefl _ _) (fun k hk=>⟨hk.1,hk.2.1⟩))
theorem OwnTrees.nil (w:World) (b:Nat):OwnTrees w b [] (.slice none 0 0):=⟨[],World.ownsRow_nil _ _ _ _,rfl⟩
theorem OwnTrees.below {w w':World} {b:Nat} {ts:List Tree} {v:Value} (h:OwnTrees w b ts v) (hb:Below w.heap.size w w'):OwnTrees w' b ts v:=by
 obtain ⟨cs,h1,h2⟩:=h
 exact ⟨cs,owns_below _ h1 hb,h2.keep (S:=FreshIn b w v) (fun p hp=>hb.cell hp.2.1) (fun k hk=>⟨hk.1,Nat.lt_of_lt_of_le hk.2.1 hb.size,hk.2.2⟩)⟩
theorem OwnTrees.own_lt {w:World} {b:Nat} {ts:List Tree} {v:Value} (h:OwnTrees w b ts v):∀ k,v.ownBlock = some k→b≤k∧k < w.heap.size:=by
 obtain ⟨cs,h1,_⟩:=h
 exact fun k hk=>h1.lt k hk
theorem OwnTrees.form {w:World} {b:Nat} {ts:List Tree} {v:Value} (h:OwnTrees w b ts v):∃ A c,v = .slice A ts.length c:=h.rows.form
section
variable {w:World} {b:Nat} {xss yss:List Tree} {v:Value}
theorem trees_grown {w':World} {v':Value} {cs rs:List Value} (h1:w.ownsRow b 31 4 v xss.length cs) (h2:ListR treeE w (FreshIn b w v) xss cs) (hls:ListR treeE w (FreshIn b w v) yss rs)
  (h3:w'.ownsRow b 31 4 v' (xss.length + yss.length) (cs ++ rs)) (h4:w.grownBy w' v.ownBlock) (h5:v'.ownBlock = v.ownBlock∨v'.ownBlock = some w.heap.size):OwnTrees w' b (xss ++ yss) v':=by
 refine ⟨cs ++ rs,by rw [List.length_append];exact h3,?_⟩
 refine (h2.append hls).keep (S:=FreshIn b w v) (fun p hp=>World.cell?_of_block (h4.block p.block hp.2.1 hp.2.2)) (fun k hk=>⟨hk.1,Nat.lt_of_lt_of_le hk.2.1 h4.size,?_⟩)
 rcases h5 with h5 | h5
 ·rw [h5];exact hk.2.2
 ·rw [h5];intro e;injection e with e;have:=hk.2.1;omega
theorem app_trees {ops:Array Oper} {rest:List Oper} {o:Oper} {a:Act} {Q:Exit→Act→World→Prop} (hgd:o.guard = none) (s x:Operand)
  (ho:o.op = .call { callee:=.builtin .append,args:=#[s,x],argTypes:=#[23,23] })
  (b:Nat) (v:Value) (xss yss:List Tree) (hs:a.eval s = v) (hown:OwnTrees w b xss v) (A:Option Addr) (m c:Nat) (hx:a.eval x = .slice A m c) (hr:SliceR treeE w (FreshIn b w v) yss (.slice A m c))
  (hbound:xss.length + yss.length≤1000000000) (hb:b≤w.heap.size)
  (h:∀ v' w',OwnTrees w' b (xss ++ yss) v'→Below b w w'→wpList Try.prog ops Q rest (a.put o.dst v') w'):wpList Try.prog ops Q (o :: rest) a w:=by
 obtain ⟨i0,hi0,hz0,hz1,hz2⟩:=nodeInfo'
 obtain ⟨A',cap',rs,e,h1,h2,hrd,hls⟩:=hr
 injection e with e1 e2 e3
 subst e1 e2 e3
 obtain ⟨cs,ho1,ho2⟩:=hown
 have hl:=hls.len
 refine wpList_append_any w hgd s x 23 ho b 31 i0 _ 4 56 Try.underlying23 hi0 hz0 hz1 hz2 rfl (by omega) v _ _ hs ho1 _ A _ c rs hx hl hrd hls.one (by simp only [maxLen];omega) (by omega) hb ?_
 intro v' w' h3 h4 h5
 exact h v' w' (trees_grown ho1 ho2 hls h3 h4 h5) (below_of_grown _ ho1 h4 hb)
end
theorem tree_one {w2:World} {b b2:Nat} {t:Tree} {v u:Value} (hok:NodeOk t) (hu:SliceR treeE w2 (fun k=>b2≤k∧k < w2.heap.size) t.kids u) (hb:b≤b2) (hv:∀ k,v.ownBlock = some k→k < b2) (h2:b2≤w2.heap.size) (g:Nat) (hg:g = w2.heap.size) (e:TypeId) :
  SliceR treeE (w2.alloc (.cells #[.int .i64 t.kind,.string t.text,.int .i64 t.cols,u] e)) (FreshIn b (w2.alloc (.cells #[.int .i64 t.kind,.string t.text,.int .i64 t.cols,u] e)) v) [t] (.slice (some ⟨g,0,none⟩) 1 1):=by
 subst hg
 have hi:SliceR treeE (w2.alloc (.cells #[.int .i64 t.kind,.string t.text,.int .i64 t.cols,u] e)) (FreshIn b (w2.alloc (.cells #[.int .i64 t.kind,.string t.text,.int .i64 t.cols,u] e)) v) t.kids u :=
  hu.keep (fun p hp=>(below_allocR _ _).cell hp.2) (fun k hk=>⟨Nat.le_trans hb hk.1,by simp;omega,fun e=>by have:=hv k e.symm;omega⟩)
 refine ⟨_,_,[.int .i64 t.kind,.string t.text,.int .i64 t.cols,u],rfl,Nat.le_refl _,by simp [maxLen],fun _=>⟨w2.heap.size,0,rfl,⟨by omega,by simp,fun e=>by have:=hv _ e.symm;omega⟩,fun j x hx=>?_⟩,ListR.single (E:=treeE) (treeR_mk.2 ⟨u,rfl,hok.1,hok.2.1,hok.2.2,hi⟩)⟩
 rw [Nat.zero_add,World.cell?_alloc_new]
 simpa using hx
end Go.Proofs.Ythpngeboknmllaa
