/- Texts put together. -/
import Derived.Test.YthpngeboknmllaaQ217d6e792c
import Derived.Test.YthpngeboknmllaaQ8d95b9e1b9
import Derived.Test.YthpngeboknmllaaQa6fc42ed80
import Derived.Deep.LoopGhost
set_option linter.unusedVariables false
set_option linter.unusedSimpArgs false
set_option maxRecDepth 100000
namespace Go.Proofs.Ythpngeboknmllaa
open Go.RowKit
theorem cells_nodesC {w W4:World} {S:Nat→Prop} {ts:List Tree} {cs:List Value} {g':Nat} {T:TypeId} (hg:W4.heap[g']? = some (.cells cs.toArray T (0,0))) (hl:ListR treeE w S ts cs) :
  ∀ (i:Nat) (hi:i < ts.length),NodeOk ts[i]∧∃ v,NodeAtC W4 g' (i * 4) ts[i] v∧SliceR treeE w S ts[i].kids v:=by
 intro i hi
 obtain ⟨c,_,hR,hc⟩:=hl.at_ hi
 obtain ⟨v,rfl,h1,h2,h3,h4⟩:=treeR_mk.1 hR
 have hcell:∀ j,j < 4→W4.cell? ⟨g',i * 4 + j,none⟩ = [Value.int .i64 ts[i].kind,.string ts[i].text,.int .i64 ts[i].cols,v][j]?:=fun j hj=>by
  rw [cell_of_row W4 g' (i * 4 + j) cs.toArray T (0,0) hg]
  have:=hc j hj
  simpa [treeE] using this
 have h0:=hcell 0 (by omega)
 rw [Nat.add_zero] at h0
 exact ⟨⟨h1,h2,h3⟩,v,⟨h0,hcell 1 (by omega),hcell 2 (by omega),hcell 3 (by omega)⟩,h4⟩
theorem DI.start (w:World) (e en:TypeId) (t:Tree) (A:Option Addr) (cap:Nat) (hv:SliceR treeE w (Lt w.heap.size) t.kids (.slice A t.kids.length cap)) (hok:NodeOk t) (W0:World)
  (hW:W0 = ((w.alloc (.cells #[.int .i64 t.kind,.string t.text,.int .i64 t.cols,.slice A t.kids.length cap] en)).alloc (.cells #[.int .i64 0,.string ⟨#[]⟩,.int .i64 0,.slice none 0 0] en)).alloc (.cells #[.pointer (some ⟨w.heap.size,0,none⟩)] e)) :
  DI w W0 e en (.slice (some ⟨w.heap.size + 1 + 1,0,none⟩) 1 1) t [(w.heap.size,0,t)] [(w.heap.size,0,t)]:=by
 obtain ⟨W1,hW1⟩:∃ W1,W1 = w.alloc (.cells #[.int .i64 t.kind,.string t.text,.int .i64 t.cols,.slice A t.kids.length cap] en):=⟨_,rfl⟩
 obtain ⟨W2,hW2⟩:∃ W2,W2 = W1.alloc (.cells #[.int .i64 0,.string ⟨#[]⟩,.int .i64 0,.slice none 0 0] en):=⟨_,rfl⟩
 rw [← hW1,← hW2] at hW
 have s1:W1.heap.size = w.heap.size + 1:=by rw [hW1];simp
 have s2:W2.heap.size = w.heap.size + 1 + 1:=by rw [hW2];simp [s1]
 have s0:W0.heap.size = w.heap.size + 1 + 1 + 1:=by rw [hW];simp [s2]
 have h1:W1.heap[w.heap.size]? = some (.cells #[.int .i64 t.kind,.string t.text,.int .i64 t.cols,.slice A t.kids.length cap] en (0,0)):=by rw [hW1];exact heap_alloc_new w _
 have h2:W2.heap[w.heap.size + 1]? = some (.cells #[.int .i64 0,.string ⟨#[]⟩,.int .i64 0,.slice none 0 0] en (0,0)):=by rw [hW2,← s1];exact heap_alloc_new W1 _
 have h3:W0.heap[w.heap.size + 1 + 1]? = some (.cells #[.pointer (some ⟨w.heap.size,0,none⟩)] e (0,0)):=by rw [hW,← s2];exact heap_alloc_new W2 _
 have h1':W0.heap[w.heap.size]? = some (.cells #[.int .i64 t.kind,.string t.text,.int .i64 t.cols,.slice A t.kids.length cap] en (0,0)):=by
  rw [hW,Below.heap_alloc _ _ _ (by omega),hW2,Below.heap_alloc _ _ _ (by omega)];exact h1
 have h2':W0.heap[w.heap.size + 1]? = some (.cells #[.int .i64 0,.string ⟨#[]⟩,.int .i64 0,.slice none 0 0] en (0,0)):=by rw [hW,Below.heap_alloc _ _ _ (by omega)];exact h2
 have hb:Below w.heap.size w W0:=by rw [hW,hW2,hW1];exact (((Below.refl _ w).alloc (Nat.le_refl _) _).alloc (by simp) _).alloc (by simp;omega) _
 have hn:NodeAtC W0 w.heap.size 0 t (.slice A t.kids.length cap):=by
  refine ⟨?_,?_,?_,?_⟩ <;> rw [cell_of_row W0 w.heap.size _ _ en (0,0) h1'] <;> rfl
 refine ⟨⟨rfl,.inr ⟨w.heap.size + 1 + 1,1,_,rfl,Nat.le_refl _,h3,Nat.le_refl _,by simp [maxLen],rfl,rfl⟩⟩,?_,by simp [addrs],.pend _ _ _ (List.mem_singleton_self _),hb,by omega,?_,h2'⟩
 ·intro x hx
  obtain rfl:=List.mem_singleton.1 hx
  exact ⟨⟨Nat.le_refl _,by simp;omega,by simp,by simp [Value.ownBlock];omega⟩,⟨0,rfl⟩,hok,_,hn,hv⟩
 ·intro x hx
  obtain rfl:=List.mem_singleton.1 hx
  simp [World.frozen?,h1']
theorem set_far {W:World} {q a:Addr} (v:Value) (h:q.block≠a.block):(W.setCell a v).cell? q = W.cell? q:=World.cell?_of_block (Below.heap_setCell W a v q.block h)
theorem pcnt_len : ∀ P : List PendT, P.length ≤ pcnt P
  | [] => Nat.le_refl _
  | x :: P => by
    have h := pcnt_len P
    have h2 := kids_le_count x.2.2
    simp only [pcnt, List.length_cons]; omega
theorem nodeSize:(Try.prog.info? 31).map (·.size) = some 4:=by kernel_rfl
theorem nodeInfo:(Try.prog.info? 31).map (fun i=>(i.zero,i.size,i.bytes)) = some (some (.agg #[.int .i64 0,.string ⟨#[]⟩,.int .i64 0,.slice none 0 0]),4,56):=by kernel_rfl
theorem nodeInfo':∃ i,Try.prog.info? 31 = some i∧i.zero = some (.agg #[.int .i64 0,.string ⟨#[]⟩,.int .i64 0,.slice none 0 0])∧i.size = 4∧i.bytes = 56:=by
 have h:=nodeInfo
 rw [Option.map_eq_some_iff] at h
 obtain ⟨i,h1,h2⟩:=h
 simp only [Prod.mk.injEq] at h2
 exact ⟨i,h1,h2.1,h2.2.1,h2.2.2⟩
theorem made_facts {w wr WM:World} {xg xo n G c:Nat} {u:Value} {T:TypeId} {l cs:List Value} {ad:Addr} (hb:Below w.heap.size w wr) (hx1:w.heap.size≤xg) (hx2:xg < wr.heap.size) (n3:wr.cell? ⟨xg,xo + 3,none⟩ = some u) (hfz:wr.frozen? ⟨xg,xo + 3,none⟩ = false) (hG:G = wr.heap.size)
  (h1:WM.ownsRow (wr.setCell ⟨xg,xo + 3,none⟩ (.slice none 0 0)).heap.size T 4 (.slice (some ⟨(wr.setCell ⟨xg,xo + 3,none⟩ (.slice none 0 0)).heap.size,0,none⟩) n n) n l) (h2:(wr.setCell ⟨xg,xo + 3,none⟩ (.slice none 0 0)).grownBy WM none) (hcn:cs.length = n * 4) (had:ad.block < w.heap.size)
  (hrc:∀ j v,cs[j]? = some v→w.cell? (ad.add j) = some v) :
  WM.cell? ⟨xg,xo + 3,none⟩ = some (.slice none 0 0)∧WM.frozen? ⟨xg,xo + 3,none⟩ = false∧∃ cur:Array Value,Hid ((WM.setCell ⟨xg,xo + 3,none⟩ (.slice (some ⟨G,0,none⟩) n n)).heap[G]? = some (.cells cur T (0,0)))∧Hid (cur.size = cs.length) ∧
   Hid (∀ j v,cs[j]? = some v→(WM.setCell ⟨xg,xo + 3,none⟩ (.slice (some ⟨G,0,none⟩) n n)).cell? (ad.add j) = some v):=by
 subst hG
 have esz:(wr.setCell ⟨xg,xo + 3,none⟩ (.slice none 0 0)).heap.size = wr.heap.size:=by simp [World.setCell]
 have hxs:xg < (wr.setCell ⟨xg,xo + 3,none⟩ (.slice none 0 0)).heap.size:=by rw [esz];exact hx2
 refine ⟨h2.cell (World.cell?_setCell_same _ _ _ n3) (by simp),(World.frozen?_of_block (h2.block xg hxs (by simp))).trans ((World.frozen?_setCell _ _ _ _).trans hfz),?_⟩
 have HSR:∀ j v,cs[j]? = some v→(WM.setCell ⟨xg,xo + 3,none⟩ (.slice (some ⟨wr.heap.size,0,none⟩) n n)).cell? (ad.add j) = some v:=by
  intro j v hj
  have hab:(ad.add j).block = ad.block:=by unfold Addr.add;split <;> rfl
  have hne:(ad.add j).block≠xg:=by rw [hab];omega
  rw [set_far _ hne]
  refine h2.cell ?_ (by simp)
  rw [set_far _ hne]
  rw [World.cell?_of_block (hb.block _ (by rw [hab];exact had))]
  exact hrc j v hj
 rcases h1.2 with ⟨h,_⟩ | ⟨g0,c0,cur,e1,k2,k3,k4,k5,k6,k7⟩
 ·cases h
 ·injection e1 with h8 h9 h10
  injection h8 with h8
  injection h8 with h8
  subst h8
  subst h10
  rw [esz] at k3
  exact ⟨cur,(Below.heap_setCell WM _ _ _ (by exact Ne.symm (Nat.ne_of_lt hx2))).trans k3,k6.trans hcn.symm,HSR⟩
theorem DI.copied {w wr WM W4:World} {e en:TypeId} {lv lv':Value} {t:Tree} {Q:List PendT} {xg xo c1:Nat} {xt:Tree} {u:Value} {cs:List Value} {cur:Array Value} (hd:DI w wr e en lv t (Q ++ [(xg,xo,xt)]) (Q ++ [(xg,xo,xt)]))
  (hs:StackR wr (w.heap.size + 2) e lv' Q) (hown:lv'.ownBlock = lv.ownBlock) (n3:wr.cell? ⟨xg,xo + 3,none⟩ = some u) (h2:(wr.setCell ⟨xg,xo + 3,none⟩ (.slice none 0 0)).grownBy WM none) (hz:0 < xt.kids.length) (hk:xt.kids.length≤1000000) (hlt:wr.heap.size < WM.heap.size)
  (hc:(WM.setCell ⟨xg,xo + 3,none⟩ (.slice (some ⟨wr.heap.size,0,none⟩) xt.kids.length xt.kids.length)).heap[wr.heap.size]? = some (.cells cur en (0,0))) (hl:ListR treeE w (Lt w.heap.size) xt.kids cs)
  (hW:W4 = (WM.setCell ⟨xg,xo + 3,none⟩ (.slice (some ⟨wr.heap.size,0,none⟩) xt.kids.length xt.kids.length)).setRow wr.heap.size cs.toArray) :
  W4.cell? ⟨xg,xo + 3,none⟩ = some (.slice (some ⟨wr.heap.size,0,none⟩) xt.kids.length xt.kids.length)∧DI w W4 e en lv' t Q (Q ++ kidsP wr.heap.size xt.kids):=by
 obtain ⟨⟨hx1,hx2,hx3,hx4⟩,hal,hxok,v,hn,hxv⟩:=hd.pend (xg,xo,xt) (by simp)
 dsimp only at hx1 hx2 hx3 hx4
 have esz:(wr.setCell ⟨xg,xo + 3,none⟩ (.slice none 0 0)).heap.size = wr.heap.size:=by simp [World.setCell]
 have m3:WM.cell? ⟨xg,xo + 3,none⟩ = some (.slice none 0 0):=h2.cell (World.cell?_setCell_same _ _ _ n3) (by simp)
 have hG:=setRow_heap _ _ cur cs.toArray _ _ hc
 rw [← hW] at hG
 have c4:W4.cell? ⟨xg,xo + 3,none⟩ = some (.slice (some ⟨wr.heap.size,0,none⟩) xt.kids.length xt.kids.length):=by
  rw [hW,cell_setRow_other _ _ _ _ (by exact Nat.ne_of_lt hx2)]
  exact World.cell?_setCell_same _ _ _ m3
 have hblk:∀ k,k < wr.heap.size→k≠xg→W4.heap[k]? = wr.heap[k]?:=fun k hk hne=>by
  rw [hW,setRow_other _ _ _ _ (Nat.ne_of_lt hk),Below.heap_setCell WM _ _ k (by exact hne),h2.block k (by rw [esz];exact hk) (by simp),Below.heap_setCell wr _ _ k (by exact hne)]
 refine ⟨c4,hd.node (g':=wr.heap.size) (cap':=xt.kids.length) (A':=some ⟨wr.heap.size,0,none⟩) (fun q hq hne=>?_) ?_ hown ?_ ?_ (fun q hq=>?_) (fun _ o=>?_) (hblk _ (by have:=hd.box;omega) (by exact Ne.symm hx3)) c4 (Nat.le_refl _) (by simp [maxLen];omega) (Nat.le_refl _) (fun _=>⟨rfl,(Array.getElem?_eq_some_iff.1 hG).1⟩) (fun i hi=>cells_nodesC hG hl i hi)⟩
 ·rw [hW,cell_setRow_other _ _ _ _ (Nat.ne_of_lt hq),World.cell?_setCell_other _ _ _ _ (Ne.symm hne),World.cell?_of_block (h2.block _ (by rw [esz];exact hq) (by simp)),World.cell?_setCell_other _ _ _ _ (Ne.symm hne)]
 ·obtain ⟨hq1,hq2⟩:=hs
  refine ⟨hq1,?_⟩
  rcases hq2 with h | ⟨g,cap,curs,rfl,h3,h4,h5⟩
  ·exact .inl h
  ·refine .inr ⟨g,cap,curs,rfl,h3,?_,h5⟩
   rw [hblk g (Array.getElem?_eq_some_iff.1 h4).1 (fun e=>hx4 (by rw [← hown,← e];rfl))]
   exact h4
 ·rw [hW]
  exact below_setRow (((hd.below.setCell (p:=⟨xg,xo + 3,none⟩) hx1 _).grown h2 (by rw [esz];have:=hd.box;omega) (fun k e=>by cases e)).setCell (p:=⟨xg,xo + 3,none⟩) hx1 _) (by have:=hd.box;omega) _
 ·rw [hW];simp [World.setCell];omega
 ·rw [hW,World.frozen?_of_block (setRow_other _ _ _ _ (Nat.ne_of_lt hq)),World.frozen?_setCell,World.frozen?_of_block (h2.block _ (by rw [esz];exact hq) (by simp)),World.frozen?_setCell]
 ·simp [World.frozen?,hG]
theorem DI.alloc {w wr:World} {e en:TypeId} {lv:Value} {t:Tree} {SL PL:List PendT} (hd:DI w wr e en lv t SL PL) (o:Obj):DI w (wr.alloc o) e en lv t SL PL :=
 hd.push (World.ownsRow.alloc hd.stack o) (World.grownBy_alloc wr o _) (fun k h=>.inl h)
theorem kidsP_take {g:Nat} {ts:List Tree} {Q:List PendT} {j:Nat} (h:j < ts.length):Q ++ (kidsP g ts).take (j + 1) = (Q ++ (kidsP g ts).take j) ++ [(g,j * 4,ts[j])]:=by
 have h2:=kidsF_get g ts 0 j h
 rw [Nat.zero_add] at h2
 have h3:(kidsP g ts).take (j + 1) = (kidsP g ts).take j ++ [(g,j * 4,ts[j])]:=by
  rw [List.take_add_one,kidsP,h2];rfl
 rw [h3,List.append_assoc]
theorem kidsP_len (g:Nat) (ts:List Tree):(kidsP g ts).length = ts.length:=kidsF_len g ts 0
theorem DI.pushed {w wr w':World} {e en:TypeId} {lv v':Value} {t:Tree} {Q PL:List PendT} {g j:Nat} {ts:List Tree} {o:Obj} (hd:DI w wr e en lv t (Q ++ (kidsP g ts).take j) PL) (hj:j < ts.length) {n:Nat} (hn:n = Q.length + j)
  (hs:w'.ownsRow (w.heap.size + 2) e 1 v' (n + 1) ((Q ++ (kidsP g ts).take j).map ptrV ++ [.pointer (some ⟨g,j * 4,none⟩)])) (hg:(wr.alloc o).grownBy w' lv.ownBlock) (hv:v'.ownBlock = lv.ownBlock∨v'.ownBlock = some (wr.alloc o).heap.size) :
  DI w w' e en v' t (Q ++ (kidsP g ts).take (j + 1)) PL:=by
 refine (hd.alloc o).push ?_ hg (fun k hk=>?_)
 ·unfold StackR
  have h2:=kidsP_len g ts
  rw [kidsP_take hj]
  have e1:((Q ++ (kidsP g ts).take j) ++ [(g,j * 4,ts[j])]).length = n + 1:=by simp [h2];omega
  rw [e1,List.map_append]
  exact hs
 ·rcases hv with h | h
  ·exact .inl (h ▸ hk)
  ·rw [hk] at h;injection h with h;right;omega
end Go.Proofs.Ythpngeboknmllaa
