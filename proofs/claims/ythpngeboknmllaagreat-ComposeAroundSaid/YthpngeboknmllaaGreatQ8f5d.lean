/- T -/
import Derived.Test.YthpngeboknmllaaGreatQd395
import Derived.Test.YthpngeboknmllaaGreatQ83e3
import Derived.Test.YthpngeboknmllaaGreatQa65a
import Derived.Deep.LoopGhost
import Derived.RangeFuncNested
import Derived.RangeFuncBound
import Derived.RangeFuncCalls
import Derived.RangeFuncLeaves
set_option linter.unusedVariables false
set_option linter.unusedSimpArgs false
set_option maxHeartbeats 8000000
set_option maxRecDepth 100000
namespace Go.Proofs.YthpngeboknmllaaGreat
open Go.RowKit
def Sv (h:Nat) (lv:Value) (wr:World) (k:Nat):Prop:=h<=k/\k<wr.heap.size/\k≠h+1/\some k≠lv.ownBlock
def addrs (P:List YP):List (Nat×Nat):=P.map fun x=>(x.1,x.2.1)
def pcnt:List YP->Nat
 |[]=>0
 |x::P=>ZW x.2.2+pcnt P
theorem Sj (P Q:List YP):pcnt (P++Q)=pcnt P+pcnt Q:=by
 induction P with
 |nil=>simp[pcnt]
 |cons x P ih=>simp only[List.cons_append,pcnt,ih];omega
def Xk (g:Nat):Nat->List Z9->List YP
 |_,[]=>[]
 |i,t::ts=>(g,i*4,t)::Xk g (i+1) ts
def YR (g:Nat) (ts:List Z9):List YP:=Xk g 0 ts
theorem zH2 (g:Nat):∀(ts:List Z9) (i:Nat),(Xk g i ts).length=ts.length
 |[],i=>rfl
 |t::ts,i=>by simp[Xk,zH2 g ts (i+1)]
theorem zF9 (g:Nat):∀(ts:List Z9) (i j:Nat) (h:j<ts.length),(Xk g i ts)[j]?=some (g,(i+j)*4,ts[j])
 |t::ts,i,0,h=>by simp[Xk]
 |
  t::ts,i,j+1,h=>by
  simp only[Xk,List.getElem?_cons_succ,List.getElem_cons_succ];rw[zF9 g ts (i+1) j (by simpa using h),show i+1+j=i+(j+1) by omega]
theorem zH3 (g:Nat):∀(ts:List Z9) (i:Nat),pcnt (Xk g i ts)=ZT ts
 |[],i=>rfl
 |t::ts,i=>by simp only[Xk,pcnt,ZT,zH3 g ts (i+1)]
structure DI (w wr:World) (e en:TypeId) (lv:Value) (t:Z9) (SL PL:List YP):Prop where
 stack:Tu wr (w.heap.size+2) e lv SL
 pend:∀x∈PL,UH w wr (Sv w.heap.size lv wr) x
 nodup:(addrs PL).Nodup
 built:WJ wr (Sv w.heap.size lv wr) (·∈PL) w.heap.size 0 t
 below:Below w.heap.size w wr
 box:w.heap.size+2<=wr.heap.size
 frz:∀x∈PL,wr.frozen? ⟨x.1,x.2.1+3,none⟩=false
 res:wr.heap[w.heap.size+1]?=some (.cells #[.int .i64 0,.string ⟨#[]⟩,.int .i64 0,.slice none 0 0] en (0,0))
theorem DI.push {w wr w':World} {e en:TypeId} {lv v':Value} {t:Z9} {SL SL' PL:List YP} (hd:DI w wr e en lv t SL PL) (hs:Tu w' (w.heap.size+2) e v' SL') (hg:wr.grownBy w' lv.ownBlock) (hv:∀k,v'.ownBlock=some k->lv.ownBlock=some k\/wr.heap.size<=k)
  : DI w w' e en v' t SL' PL:=by
 have hS:∀k,Sv w.heap.size lv wr k->Sv w.heap.size v' w' k:=fun k hk=>⟨hk.1,QV hk.2.1 hg.size,hk.2.2.1,fun e=>by
  rcases hv k e.symm with h|h
  ·exact hk.2.2.2 h.symm
  have:=hk.2.1;omega⟩
 have hc:∀q:Addr,Sv w.heap.size lv wr q.block->w'.cell? q=wr.cell? q:=fun q hq=>World.cell?_of_block (hg.block q.block hq.2.1 hq.2.2.2)
 have hb:∀k,lv.ownBlock=some k->w.heap.size<=k:=fun k hk=>by have:=(hd.stack.lt k hk).1;omega
 refine⟨hs,fun x hx=>(hd.pend x hx).keep hS (fun j _=>hc ⟨x.1,x.2.1+j,none⟩ (hd.pend x hx).1),hd.nodup,hd.built.keep hS hc (fun _ h=>h),hd.below.grown hg (by have:=hd.box;omega) (fun k e=>hb k e),QP hd.box hg.size,fun x hx=>(World.frozen?_of_block (hg.block x.1 (hd.pend x hx).1.2.1 (hd.pend x hx).1.2.2.2)).trans (hd.frz x hx),(hg.block _ (by have:=hd.box;omega) (fun e=>by have:=(hd.stack.lt _ e.symm).1;omega)).trans hd.res⟩
theorem DI.result {w wr:World} {e en:TypeId} {lv:Value} {t:Z9} {SL:List YP} (hd:DI w wr e en lv t SL []):∃v,WE wr w.heap.size 0 t v/\Z8 Z7 wr (Sv w.heap.size lv wr) t.kids v:=by
 obtain⟨v,h1,_,h3⟩:=hd.built.reads (fun x h=>by cases h);exact⟨v,h1,h3⟩
theorem Sb {g:Nat} {ts:List Z9} {x:YP}:x∈YR g ts↔∃(i:Nat) (h:i<ts.length),x=(g,i*4,ts[i]):=by
 constructor
 ·intro hx;obtain⟨i,hi,h⟩:=List.mem_iff_getElem.1 hx;have aa:i<ts.length:=by rw[<-zH2 g ts 0];exact hi
  have:=zF9 g ts 0 i aa;rw[Nat.zero_add] at this;refine⟨i,aa,?_⟩;have h2:(YR g ts)[i]?=some x:=by rw[List.getElem?_eq_getElem hi,h]
  rw[YR,this] at h2;exact(Option.some.inj h2).symm
 rintro ⟨i,hi,rfl⟩;have:=zF9 g ts 0 i hi;rw[Nat.zero_add] at this;exact List.mem_of_getElem? this
theorem zN3 (g:Nat):∀(ts:List Z9) (i:Nat),∀a∈addrs (Xk g i ts),i*4<=a.2
 |[],i,a,h=>by simp[Xk,addrs] at h
 |
  t::ts,i,a,h=>by
  simp only[Xk,addrs,List.map_cons,List.mem_cons] at h;rcases h with rfl|h
  ·simp
  have:=zN3 g ts (i+1) a h;omega
theorem zH1 (g:Nat):∀(ts:List Z9) (i:Nat),(addrs (Xk g i ts)).Nodup
 |[],i=>by simp[Xk,addrs]
 |
  t::ts,i=>by
  simp only[Xk,addrs,List.map_cons,List.nodup_cons];refine⟨fun h=>?_,zH1 g ts (i+1)⟩;have:=zN3 g ts (i+1) _ h;simp only at this;omega
theorem zMy {g:Nat} {ts:List Z9}:(addrs (YR g ts)).Nodup:=zH1 g ts 0
theorem DI.node {w wr W4:World} {e en:TypeId} {lv lv':Value} {t:Z9} {Q:List YP} {x:YP} {g' cap':Nat} {A':Option Addr} (hd:DI w wr e en lv t (Q++[x]) (Q++[x]))
  (hk:∀q:Addr,q.block<wr.heap.size->q≠⟨x.1,x.2.1+3,none⟩->W4.cell? q=wr.cell? q) (hs:Tu W4 (w.heap.size+2) e lv' Q) (ae:lv'.ownBlock=lv.ownBlock) (hb:Below w.heap.size w W4) (aj:wr.heap.size<=W4.heap.size)
  (hf:∀q:Addr,q.block<wr.heap.size->W4.frozen? q=wr.frozen? q) (az:0<x.2.2.kids.length->∀o,W4.frozen? ⟨g',o,none⟩=false) (ag:W4.heap[w.heap.size+1]?=wr.heap[w.heap.size+1]?) (hc:W4.cell? ⟨x.1,x.2.1+3,none⟩=some (.slice A' x.2.2.kids.length cap')) (ai:x.2.2.kids.length<=cap') (ah:cap'<=maxLen)
  (hg:wr.heap.size<=g') (hA:0<x.2.2.kids.length->A'=some ⟨g',0,none⟩/\g'<W4.heap.size)
  (aa:∀(i:Nat) (hi:i<x.2.2.kids.length),Zt x.2.2.kids[i]/\∃v,WE W4 g' (i*4) x.2.2.kids[i] v/\Z8 Z7 w (Lt w.heap.size) x.2.2.kids[i].kids v) :
  DI w W4 e en lv' t Q (Q++YR g' x.2.2.kids):=by
 have hS:∀k,Sv w.heap.size lv wr k->Sv w.heap.size lv' W4 k:=fun k hk=>⟨hk.1,QV hk.2.1 aj,hk.2.2.1,by rw[ae];exact hk.2.2.2⟩
 have aA:=hd.box;have ay:∀k,lv.ownBlock=some k->k<wr.heap.size:=fun k hk=>(hd.stack.lt k hk).2
 have au:0<x.2.2.kids.length->Sv w.heap.size lv' W4 g':=fun h=>⟨by omega,(hA h).2,by omega,by rw[ae];intro e;have:=ay _ e.symm;omega⟩
 have ak:∀q:Addr,Sv w.heap.size lv wr q.block->q≠⟨x.1,x.2.1+3,none⟩->W4.cell? q=wr.cell? q:=fun q hq ax=>hk q hq.2.1 ax
 have hx:=hd.pend x (by simp);have af:=hd.nodup;unfold addrs at af;rw[List.map_append,List.nodup_append] at af;refine⟨hs,?_,?_,?_,hb,QP aA aj,?_,ag.trans hd.res⟩
 ·intro y hy;rcases List.mem_append.1 hy with hy|hy
  ·refine(hd.pend y (by simp[hy])).other hx.2.1 (fun e=>?_) hS ak;exact af.2.2 _ (List.mem_map_of_mem hy) _ (List.mem_map_of_mem (List.mem_singleton_self x)) (by rw[Prod.mk.injEq];exact e)
  obtain⟨i,hi,rfl⟩:=Sb.1 hy;obtain⟨h1,v,h2,h3⟩:=aa i hi;exact⟨au (by omega),⟨i,rfl⟩,h1,v,h2,h3⟩
 ·unfold addrs;rw[List.map_append,List.nodup_append];refine⟨af.1,zMy,?_⟩;intro a ha b aB e;subst e;obtain⟨y,hy,rfl⟩:=List.mem_map.1 ha;obtain⟨z,hz,av⟩:=List.mem_map.1 aB;obtain⟨i,hi,rfl⟩:=Sb.1 hz;have h1:=(hd.pend y (by simp[hy])).1.2.1;have h2:g'=y.1:=congrArg Prod.fst av;omega
 ·refine WJ.step (g':=g') hx (fun y hy=>?_) hS (fun k hk=>hk.1) ak hc ai ah (fun h=>⟨(hA h).1,au h⟩) (fun i hi=>List.mem_append_right _ (Sb.2 ⟨i,hi,rfl⟩)) hd.built;rcases List.mem_append.1 hy with hy|hy
  ·exact .inr (List.mem_append_left _ hy)
  exact .inl (List.mem_singleton.1 hy)
 intro y hy;rcases List.mem_append.1 hy with hy|hy
 ·exact(hf _ (hd.pend y (by simp[hy])).1.2.1).trans (hd.frz y (by simp[hy]))
 obtain⟨i,hi,rfl⟩:=Sb.1 hy;exact az (by omega) _
theorem zMb {w W4:World} {S:Nat->Prop} {ts:List Z9} {cs:List Value} {g':Nat} {T:TypeId} (hg:W4.heap[g']?=some (.cells cs.toArray T (0,0))) (hl:ZK Z7 w S ts cs) :
  ∀(i:Nat) (hi:i<ts.length),Zt ts[i]/\∃v,WE W4 g' (i*4) ts[i] v/\Z8 Z7 w S ts[i].kids v:=by
 intro i hi;obtain⟨c,_,hR,hc⟩:=hl.at_ hi;obtain⟨v,rfl,h1,h2,h3,h4⟩:=YI.1 hR;have hcell:∀j,j<4->W4.cell? ⟨g',i*4+j,none⟩=[Value.int .i64 ts[i].kind,.string ts[i].text,.int .i64 ts[i].cols,v][j]?:=fun j hj=>by
  rw[cell_of_row W4 g' (i*4+j) cs.toArray T (0,0) hg];have:=hc j hj;simpa[Z7] using this
 have h0:=hcell 0 (by omega);rw[Nat.add_zero] at h0;exact⟨⟨h1,h2,h3⟩,v,⟨h0,hcell 1 (by omega),hcell 2 (by omega),hcell 3 (by omega)⟩,h4⟩
theorem DI.start (w:World) (e en:TypeId) (t:Z9) (A:Option Addr) (cap:Nat) (hv:Z8 Z7 w (Lt w.heap.size) t.kids (.slice A t.kids.length cap)) (ag:Zt t) (W0:World)
  (hW:W0=((w.alloc (.cells #[.int .i64 t.kind,.string t.text,.int .i64 t.cols,.slice A t.kids.length cap] en)).alloc (.cells #[.int .i64 0,.string ⟨#[]⟩,.int .i64 0,.slice none 0 0] en)).alloc (.cells #[.pointer (some ⟨w.heap.size,0,none⟩)] e)) :
  DI w W0 e en (.slice (some ⟨w.heap.size+1+1,0,none⟩) 1 1) t [(w.heap.size,0,t)] [(w.heap.size,0,t)]:=by
 obtain⟨W1,ae⟩:∃W1,W1=w.alloc (.cells #[.int .i64 t.kind,.string t.text,.int .i64 t.cols,.slice A t.kids.length cap] en):=⟨_,rfl⟩;obtain⟨W2,aa⟩:∃W2,W2=W1.alloc (.cells #[.int .i64 0,.string ⟨#[]⟩,.int .i64 0,.slice none 0 0] en):=⟨_,rfl⟩;rw[<-ae,<-aa] at hW;have s1:W1.heap.size=w.heap.size+1:=by rw[ae];simp
 have s2:W2.heap.size=w.heap.size+1+1:=by rw[aa];simp[s1]
 have s0:W0.heap.size=w.heap.size+1+1+1:=by rw[hW];simp[s2]
 have h1:W1.heap[w.heap.size]?=some (.cells #[.int .i64 t.kind,.string t.text,.int .i64 t.cols,.slice A t.kids.length cap] en (0,0)):=by rw[ae];exact heap_alloc_new w _
 have h2:W2.heap[w.heap.size+1]?=some (.cells #[.int .i64 0,.string ⟨#[]⟩,.int .i64 0,.slice none 0 0] en (0,0)):=by rw[aa,<-s1];exact heap_alloc_new W1 _
 have h3:W0.heap[w.heap.size+1+1]?=some (.cells #[.pointer (some ⟨w.heap.size,0,none⟩)] e (0,0)):=by rw[hW,<-s2];exact heap_alloc_new W2 _
 have af:W0.heap[w.heap.size]?=some (.cells #[.int .i64 t.kind,.string t.text,.int .i64 t.cols,.slice A t.kids.length cap] en (0,0)):=by
  rw[hW,Below.heap_alloc _ _ _ (by omega),aa,Below.heap_alloc _ _ _ (by omega)];exact h1
 have ah:W0.heap[w.heap.size+1]?=some (.cells #[.int .i64 0,.string ⟨#[]⟩,.int .i64 0,.slice none 0 0] en (0,0)):=by rw[hW,Below.heap_alloc _ _ _ (by omega)];exact h2
 have hb:Below w.heap.size w W0:=by rw[hW,aa,ae];exact(((QQ _ w).alloc (QT _) _).alloc (by simp) _).alloc (by simp;omega) _
 have hn:WE W0 w.heap.size 0 t (.slice A t.kids.length cap):=by
  refine⟨?_,?_,?_,?_⟩<;>rw[cell_of_row W0 w.heap.size _ _ en (0,0) af]<;>rfl
 refine⟨⟨rfl,.inr ⟨w.heap.size+1+1,1,_,rfl,QT _,h3,QT _,by simp[maxLen],rfl,rfl⟩⟩,?_,by simp[addrs],.pend _ _ _ (List.mem_singleton_self _),hb,by omega,?_,ah⟩
 ·intro x hx;obtain rfl:=List.mem_singleton.1 hx;exact⟨⟨QT _,by simp;omega,by simp,by simp[Value.ownBlock];omega⟩,⟨0,rfl⟩,ag,_,hn,hv⟩
 intro x hx;obtain rfl:=List.mem_singleton.1 hx;simp[World.frozen?,af]
theorem UT {W:World} {q a:Addr} (v:Value) (h:q.block≠a.block):(W.setCell a v).cell? q=W.cell? q:=World.cell?_of_block (Below.heap_setCell W a v q.block h)
theorem zKe:∀P:List YP,P.length<=pcnt P
 |[]=>QT _
 |
  x::P=>by
  have h:=zKe P;have h2:=Yz x.2.2;simp only[pcnt,List.length_cons];omega
theorem zHh:(Tryz.prog.info? 24).map (·.size)=some 4:=by kernel_rfl
theorem zF5:∃i,Tryz.prog.info? 24=some i/\i.zero=some (.agg #[.int .i64 0,.string ⟨#[]⟩,.int .i64 0,.slice none 0 0])/\i.size=4/\i.bytes=56:=by
 have h:=TD;rw[Option.map_eq_some_iff] at h;obtain⟨i,h1,h2⟩:=h;simp only[Prod.mk.injEq] at h2;exact⟨i,h1,h2.1,h2.2.1,h2.2.2⟩
theorem zJi {w wr WM:World} {xg xo n G c:Nat} {u:Value} {T:TypeId} {l cs:List Value} {ad:Addr} (hb:Below w.heap.size w wr) (hx1:w.heap.size<=xg) (ae:xg<wr.heap.size) (n3:wr.cell? ⟨xg,xo+3,none⟩=some u) (ak:wr.frozen? ⟨xg,xo+3,none⟩=false) (hG:G=wr.heap.size)
  (h1:WM.ownsRow (wr.setCell ⟨xg,xo+3,none⟩ (.slice none 0 0)).heap.size T 4 (.slice (some ⟨(wr.setCell ⟨xg,xo+3,none⟩ (.slice none 0 0)).heap.size,0,none⟩) n n) n l) (h2:(wr.setCell ⟨xg,xo+3,none⟩ (.slice none 0 0)).grownBy WM none) (au:cs.length=n*4) (av:ad.block<w.heap.size)
  (aj:∀j v,cs[j]?=some v->w.cell? (ad.add j)=some v) :
  WM.cell? ⟨xg,xo+3,none⟩=some (.slice none 0 0)/\WM.frozen? ⟨xg,xo+3,none⟩=false/\∃aa:Array Value,Hid ((WM.setCell ⟨xg,xo+3,none⟩ (.slice (some ⟨G,0,none⟩) n n)).heap[G]?=some (.cells aa T (0,0)))/\Hid (aa.size=cs.length) /\
   Hid (∀j v,cs[j]?=some v->(WM.setCell ⟨xg,xo+3,none⟩ (.slice (some ⟨G,0,none⟩) n n)).cell? (ad.add j)=some v):=by
 subst hG;have ah:(wr.setCell ⟨xg,xo+3,none⟩ (.slice none 0 0)).heap.size=wr.heap.size:=by simp[World.setCell]
 have ai:xg<(wr.setCell ⟨xg,xo+3,none⟩ (.slice none 0 0)).heap.size:=by rw[ah];exact ae
 refine⟨h2.cell (World.cell?_setCell_same _ _ _ n3) (by simp),(World.frozen?_of_block (h2.block xg ai (by simp))).trans ((World.frozen?_setCell _ _ _ _).trans ak),?_⟩;have ax:∀j v,cs[j]?=some v->(WM.setCell ⟨xg,xo+3,none⟩ (.slice (some ⟨wr.heap.size,0,none⟩) n n)).cell? (ad.add j)=some v:=by
  intro j v hj;have ag:(ad.add j).block=ad.block:=by unfold Addr.add;split<;>rfl
  have af:(ad.add j).block≠xg:=by rw[ag];omega
  rw[UT _ af];refine h2.cell ?_ (by simp);rw[UT _ af];rw[World.cell?_of_block (hb.block _ (by rw[ag];exact av))];exact aj j v hj
 rcases h1.2 with ⟨h,_⟩|⟨g0,c0,aa,e1,k2,k3,k4,k5,k6,k7⟩
 ·cases h
 injection e1 with h8 h9 h10
 injection h8 with h8
 injection h8 with h8
 subst h8;subst h10;rw[ah] at k3;exact⟨aa,(Below.heap_setCell WM _ _ _ (by exact Ne.symm (Nat.ne_of_lt ae))).trans k3,k6.trans au.symm,ax⟩
theorem DI.copied {w wr WM W4:World} {e en:TypeId} {lv lv':Value} {t:Z9} {Q:List YP} {xg xo c1:Nat} {xt:Z9} {u:Value} {cs:List Value} {cur:Array Value} (hd:DI w wr e en lv t (Q++[(xg,xo,xt)]) (Q++[(xg,xo,xt)]))
  (hs:Tu wr (w.heap.size+2) e lv' Q) (aa:lv'.ownBlock=lv.ownBlock) (n3:wr.cell? ⟨xg,xo+3,none⟩=some u) (h2:(wr.setCell ⟨xg,xo+3,none⟩ (.slice none 0 0)).grownBy WM none) (hz:0<xt.kids.length) (hk:xt.kids.length<=1000000) (hlt:wr.heap.size<WM.heap.size)
  (hc:(WM.setCell ⟨xg,xo+3,none⟩ (.slice (some ⟨wr.heap.size,0,none⟩) xt.kids.length xt.kids.length)).heap[wr.heap.size]?=some (.cells cur en (0,0))) (hl:ZK Z7 w (Lt w.heap.size) xt.kids cs)
  (hW:W4=(WM.setCell ⟨xg,xo+3,none⟩ (.slice (some ⟨wr.heap.size,0,none⟩) xt.kids.length xt.kids.length)).setRow wr.heap.size cs.toArray) :
  W4.cell? ⟨xg,xo+3,none⟩=some (.slice (some ⟨wr.heap.size,0,none⟩) xt.kids.length xt.kids.length)/\DI w W4 e en lv' t Q (Q++YR wr.heap.size xt.kids):=by
 obtain⟨⟨ah,au,ak,aj⟩,hal,av,v,hn,hxv⟩:=hd.pend (xg,xo,xt) (by simp)
 dsimp only at ah au ak aj
 have ag:(wr.setCell ⟨xg,xo+3,none⟩ (.slice none 0 0)).heap.size=wr.heap.size:=by simp[World.setCell]
 have m3:WM.cell? ⟨xg,xo+3,none⟩=some (.slice none 0 0):=h2.cell (World.cell?_setCell_same _ _ _ n3) (by simp);have hG:=setRow_heap _ _ cur cs.toArray _ _ hc;rw[<-hW] at hG;have c4:W4.cell? ⟨xg,xo+3,none⟩=some (.slice (some ⟨wr.heap.size,0,none⟩) xt.kids.length xt.kids.length):=by
  rw[hW,cell_setRow_other _ _ _ _ (by exact Nat.ne_of_lt au)];exact World.cell?_setCell_same _ _ _ m3
 have af:∀k,k<wr.heap.size->k≠xg->W4.heap[k]?=wr.heap[k]?:=fun k hk ae=>by
  rw[hW,setRow_other _ _ _ _ (Nat.ne_of_lt hk),Below.heap_setCell WM _ _ k (by exact ae),h2.block k (by rw[ag];exact hk) (by simp),Below.heap_setCell wr _ _ k (by exact ae)]
 refine⟨c4,hd.node (g':=wr.heap.size) (cap':=xt.kids.length) (A':=some ⟨wr.heap.size,0,none⟩) (fun q hq ae=>?_) ?_ aa ?_ ?_ (fun q hq=>?_) (fun _ o=>?_) (af _ (by have:=hd.box;omega) (by exact Ne.symm ak)) c4 (QT _) (by simp[maxLen];omega) (QT _) (fun _=>⟨rfl,(Array.getElem?_eq_some_iff.1 hG).1⟩) (fun i hi=>zMb hG hl i hi)⟩
 ·rw[hW,cell_setRow_other _ _ _ _ (Nat.ne_of_lt hq),World.cell?_setCell_other _ _ _ _ (Ne.symm ae),World.cell?_of_block (h2.block _ (by rw[ag];exact hq) (by simp)),World.cell?_setCell_other _ _ _ _ (Ne.symm ae)]
 ·obtain⟨ay,ax⟩:=hs;refine⟨ay,?_⟩;rcases ax with h|⟨g,cap,ai,rfl,h3,h4,h5⟩
  ·exact .inl h
  refine .inr ⟨g,cap,ai,rfl,h3,?_,h5⟩;rw[af g (Array.getElem?_eq_some_iff.1 h4).1 (fun e=>aj (by rw[<-aa,<-e];rfl))];exact h4
 ·rw[hW];exact below_setRow (((hd.below.setCell (p:=⟨xg,xo+3,none⟩) ah _).grown h2 (by rw[ag];have:=hd.box;omega) (fun k e=>by cases e)).setCell (p:=⟨xg,xo+3,none⟩) ah _) (by have:=hd.box;omega) _
 ·rw[hW];simp[World.setCell];omega
 ·rw[hW,World.frozen?_of_block (setRow_other _ _ _ _ (Nat.ne_of_lt hq)),World.frozen?_setCell,World.frozen?_of_block (h2.block _ (by rw[ag];exact hq) (by simp)),World.frozen?_setCell]
 simp[World.frozen?,hG]
theorem DI.alloc {w wr:World} {e en:TypeId} {lv:Value} {t:Z9} {SL PL:List YP} (hd:DI w wr e en lv t SL PL) (o:Obj):DI w (wr.alloc o) e en lv t SL PL :=
 hd.push (World.ownsRow.alloc hd.stack o) (World.grownBy_alloc wr o _) (fun k h=>.inl h)
theorem zOt {g:Nat} {ts:List Z9} {Q:List YP} {j:Nat} (h:j<ts.length):Q++(YR g ts).take (j+1)=(Q++(YR g ts).take j)++[(g,j*4,ts[j])]:=by
 have h2:=zF9 g ts 0 j h;rw[Nat.zero_add] at h2;have h3:(YR g ts).take (j+1)=(YR g ts).take j++[(g,j*4,ts[j])]:=by
  rw[List.take_add_one,YR,h2];rfl
 rw[h3,List.append_assoc]
theorem Rl (g:Nat) (ts:List Z9):(YR g ts).length=ts.length:=zH2 g ts 0
theorem DI.pushed {w wr w':World} {e en:TypeId} {lv v':Value} {t:Z9} {Q PL:List YP} {g j:Nat} {ts:List Z9} {o:Obj} (hd:DI w wr e en lv t (Q++(YR g ts).take j) PL) (hj:j<ts.length) {n:Nat} (hn:n=Q.length+j)
  (hs:w'.ownsRow (w.heap.size+2) e 1 v' (n+1) ((Q++(YR g ts).take j).map WP++[.pointer (some ⟨g,j*4,none⟩)])) (hg:(wr.alloc o).grownBy w' lv.ownBlock) (hv:v'.ownBlock=lv.ownBlock\/v'.ownBlock=some (wr.alloc o).heap.size) :
  DI w w' e en v' t (Q++(YR g ts).take (j+1)) PL:=by
 refine(hd.alloc o).push ?_ hg (fun k hk=>?_)
 ·unfold Tu;have h2:=Rl g ts;rw[zOt hj];have e1:((Q++(YR g ts).take j)++[(g,j*4,ts[j])]).length=n+1:=by simp[h2];omega
  rw[e1,List.map_append];exact hs
 rcases hv with h|h
 ·exact .inl (h ▸ hk)
 rw[hk] at h;injection h with h;right;omega
def zVx (w:World) (t:Z9) (e:Ending) (w':World):Prop :=
 ∃v,e=.returned (.agg #[.int .i64 t.kind,.string t.text,.int .i64 t.cols,v])/\Z8 Z7 w' (fun k=>w.heap.size<=k/\k<w'.heap.size) t.kids v/\Below w.heap.size w w'
theorem XG (t:Z9):ZW t=1+ZT t.kids:=by cases t;rfl
theorem zP1:(Tryz.prog.info? 123).map (fun i=>(i.zero,i.size,i.bytes))=some (some (.pointer none),1,8):=by kernel_rfl
theorem RX {w:World} {a:Addr} {v:Value} (h:w.cell? a=some v):a.block<w.heap.size:=by
 rcases Nat.lt_or_ge a.block w.heap.size with h1|h1
 ·exact h1
 simp[World.cell?,Array.getElem?_eq_none h1] at h
theorem zLg (w:World) (x:Value) (e:TypeId) (g:Nat) (hg:g=w.heap.size):Zl (w.alloc (.cells #[x] e)) (fun _=>True) (some ⟨g,0,none⟩) [x]:=fun _=>⟨g,0,rfl,trivial,fun j u hu=>by
 subst hg;rw[Nat.zero_add,World.cell?_alloc_new];simpa using hu⟩
theorem zHu {wr w':World} {o:Obj} {row:Option Nat} {a:Addr} {v:Value} (h4:(wr.alloc o).grownBy w' row) (hc:wr.cell? a=some v) (hx:some a.block≠row):w'.cell? a=some v :=
 (World.cell?_of_block (h4.block a.block (by have:=RX hc;simp;omega) hx)).trans (((Xx wr o).cell (RX hc)).trans hc)
theorem zJc {wr:World} {o:Obj} {v v':Value} {a:Addr} {u:Value} (h5:v'.ownBlock=v.ownBlock\/v'.ownBlock=some (wr.alloc o).heap.size) (hc:wr.cell? a=some u) (hx:some a.block≠v.ownBlock):some a.block≠v'.ownBlock:=by
 rcases h5 with h|h
 ·rw[h];exact hx
 rw[h];intro e;injection e with e;have:=RX hc;simp at e;omega
theorem Re (t:Z9) (A:Option Addr) (cap:Nat) (w:World) (hv:Z8 Z7 w (Lt w.heap.size) t.kids (.slice A t.kids.length cap)) (aS:Zt t) (ay:ZW t<=1000000) :
  Calls Tryz.prog 95 #[.agg #[.int .i64 t.kind,.string t.text,.int .i64 t.cols,.slice A t.kids.length cap]] w (zVx w t):=by
 have HS:=hid (DI.start w 123 24 t A cap hv aS _ rfl);have dm:=hid ay;clear hv aS ay;go_enter Tryz.func95,Tryz.ntmps95
 go_wp2_with fail
 generalize (((w.alloc (.cells #[.int .i64 t.kind,.string t.text,.int .i64 t.cols,.slice A t.kids.length cap] 24)).alloc (.cells #[.int .i64 0,.string ⟨#[]⟩,.int .i64 0,.slice none 0 0] 24)).alloc (.cells #[.pointer (some ⟨w.heap.size,0,none⟩)] 123))=W0 at *
 go_loopg [3] (ZW t) (fun k bH wr=>∃(lv:Value) (P:List YP),lv=bH/\DI w wr 123 24 lv t P P/\pcnt P=k/\k<=1000000)
 case atStart=>exact⟨_,_,rfl,HS.out,by simp[pcnt],dm.out⟩
 obtain⟨lv,P,rfl,hd,hk,hkm⟩:=hrel;rcases List.eq_nil_or_concat P with rfl|⟨Q,x,rfl⟩
 ·obtain⟨v,hn,hr⟩:=hd.result;obtain⟨A1,c1,rfl⟩:=hr.form;have bP:∃B1 d1,lv=.slice B1 0 d1:=by
   rcases hd.stack.2 with ⟨rfl,_⟩|⟨g,cap,aI,rfl,_⟩
   · exact⟨_,_,rfl⟩
   exact⟨_,_,rfl⟩
  obtain⟨B1,d1,rfl⟩:=bP;obtain⟨n0,n1,n2,n3⟩:=hn;simp only[Nat.zero_add] at n1 n2 n3;have aa:=hd.res;have aD:w.heap.size+1<wr.heap.size:=by have:=hd.box;omega
  have HB:=hid hd.below;have HR:=hid hr;have r0:wr.cell? ⟨w.heap.size+1,0,none⟩=some (.int .i64 0)/\wr.frozen? ⟨w.heap.size+1,0,none⟩=false:=by constructor<;>simp[World.cell?,World.frozen?,aa]
  have r1:wr.cell? ⟨w.heap.size+1,1,none⟩=some (.string ⟨#[]⟩)/\wr.frozen? ⟨w.heap.size+1,1,none⟩=false:=by constructor<;>simp[World.cell?,World.frozen?,aa]
  have r2:wr.cell? ⟨w.heap.size+1,2,none⟩=some (.int .i64 0)/\wr.frozen? ⟨w.heap.size+1,2,none⟩=false:=by constructor<;>simp[World.cell?,World.frozen?,aa]
  have r3:wr.cell? ⟨w.heap.size+1,3,none⟩=some (.slice none 0 0)/\wr.frozen? ⟨w.heap.size+1,3,none⟩=false:=by constructor<;>simp[World.cell?,World.frozen?,aa]
  obtain⟨r0,f0⟩:=r0;obtain⟨r1,f1⟩:=r1;obtain⟨r2,f2⟩:=r2;obtain⟨r3,f3⟩:=r3;clear hd aa hr hk
  go_wp2_with fail
  have q0:((((wr.setCell ⟨w.heap.size+1,0,none⟩ (.int .i64 t.kind)).setCell ⟨w.heap.size+1,1,none⟩ (.string t.text)).setCell ⟨w.heap.size+1,2,none⟩ (.int .i64 t.cols)).setCell ⟨w.heap.size+1,3,none⟩ (.slice A1 t.kids.length c1)).cell? ⟨w.heap.size+1,0,none⟩=some (.int .i64 t.kind):=by go_simp
  have q1:((((wr.setCell ⟨w.heap.size+1,0,none⟩ (.int .i64 t.kind)).setCell ⟨w.heap.size+1,1,none⟩ (.string t.text)).setCell ⟨w.heap.size+1,2,none⟩ (.int .i64 t.cols)).setCell ⟨w.heap.size+1,3,none⟩ (.slice A1 t.kids.length c1)).cell? ⟨w.heap.size+1,1,none⟩=some (.string t.text):=by go_simp
  have q2:((((wr.setCell ⟨w.heap.size+1,0,none⟩ (.int .i64 t.kind)).setCell ⟨w.heap.size+1,1,none⟩ (.string t.text)).setCell ⟨w.heap.size+1,2,none⟩ (.int .i64 t.cols)).setCell ⟨w.heap.size+1,3,none⟩ (.slice A1 t.kids.length c1)).cell? ⟨w.heap.size+1,2,none⟩=some (.int .i64 t.cols):=by go_simp
  have q3:((((wr.setCell ⟨w.heap.size+1,0,none⟩ (.int .i64 t.kind)).setCell ⟨w.heap.size+1,1,none⟩ (.string t.text)).setCell ⟨w.heap.size+1,2,none⟩ (.int .i64 t.cols)).setCell ⟨w.heap.size+1,3,none⟩ (.slice A1 t.kids.length c1)).cell? ⟨w.heap.size+1,3,none⟩=some (.slice A1 t.kids.length c1):=by go_simp
  have cu:=(((HB.out.setCell (p:=⟨w.heap.size+1,0,none⟩) (Nat.le_succ _) (.int .i64 t.kind)).setCell (p:=⟨w.heap.size+1,1,none⟩) (Nat.le_succ _) (.string t.text)).setCell (p:=⟨w.heap.size+1,2,none⟩) (Nat.le_succ _) (.int .i64 t.cols)).setCell (p:=⟨w.heap.size+1,3,none⟩) (Nat.le_succ _) (.slice A1 t.kids.length c1);have bK:Z8 Z7 ((((wr.setCell ⟨w.heap.size+1,0,none⟩ (.int .i64 t.kind)).setCell ⟨w.heap.size+1,1,none⟩ (.string t.text)).setCell ⟨w.heap.size+1,2,none⟩ (.int .i64 t.cols)).setCell ⟨w.heap.size+1,3,none⟩ (.slice A1 t.kids.length c1)) (fun k=>w.heap.size<=k/\k<((((wr.setCell ⟨w.heap.size+1,0,none⟩ (.int .i64 t.kind)).setCell ⟨w.heap.size+1,1,none⟩ (.string t.text)).setCell ⟨w.heap.size+1,2,none⟩ (.int .i64 t.cols)).setCell ⟨w.heap.size+1,3,none⟩ (.slice A1 t.kids.length c1)).heap.size) t.kids (.slice A1 t.kids.length c1) :=
   Z8.keep HR.out (fun q hq=>by rw[UT _ hq.2.2.1,UT _ hq.2.2.1,UT _ hq.2.2.1,UT _ hq.2.2.1]) (fun k hk=>⟨hk.1,by have:=hk.2.1;simpa[World.setCell] using this⟩)
  generalize ((((wr.setCell ⟨w.heap.size+1,0,none⟩ (.int .i64 t.kind)).setCell ⟨w.heap.size+1,1,none⟩ (.string t.text)).setCell ⟨w.heap.size+1,2,none⟩ (.int .i64 t.cols)).setCell ⟨w.heap.size+1,3,none⟩ (.slice A1 t.kids.length c1))=W5 at *;exact bodyPost_ret (v:=.agg #[.int .i64 t.kind,.string t.text,.int .i64 t.cols,.slice A1 t.kids.length c1]) (by simp[results,Tryz.results95,go_sem,q0,q1,q2,q3]) rfl ⟨_,rfl,bK,cu⟩
 rw[List.concat_eq_append] at hd hk;obtain⟨g,cp,rfl,hg1,hg2,bW,bU,ay,aP⟩:=hd.stack.top;have aT:=hd.frz x (by simp);have hx:=hd.pend x (by simp);obtain⟨xg,xo,xt⟩:=x;obtain⟨⟨aC,aB,aO,aA⟩,aF,ae,v,⟨n0,n1,n2,n3⟩,ak⟩:=hx
 dsimp only [WP] at aT aC aB aO aA aF ae n0 n1 n2 n3 ak ay
 obtain⟨A1,c1,rfl⟩:=ak.form;have bQ:Q.length<=1000000:=by have:=zKe (Q++[(xg,xo,xt)]);simp at this;omega
 have bR:xt.kids.length<=1000000:=by
  have h1:=Yz xt;rw[Sj] at hk;simp only[pcnt] at hk;omega
 have HD:=hid hd;have aK:=hid aP;have cK:=hid ak;have HK:=hid hk;have HAL:=hid aF;have HOK:=hid ae;have aX:=hid aA;clear hd aP ak hk aF ae aA;have i0:(0:Int)<=(Q.length:Int):=by omega
 have i1:(Q.length:Int)<(Q.length:Int)+1:=by omega
 have i2:(Q.length:Int)<=(cp:Int):=by omega
 have i3:decide ((0:Int)<(Q.length:Int)+1)=true:=by rw[decide_eq_true_eq];omega
 rcases Nat.eq_zero_or_pos xt.kids.length with hz|hz
 ·have bJ:=hid hz;rw[hz] at n3
  go_wp2_with (refine zEy rfl (.tmp 41) (.tmp 42) 22 rfl 24 4 Tryz.underlying22 zHh A1 c1 0 rfl rfl ?_)
  go_loop [3,49] (fun l i=>l=.slice (some ⟨g,0,none⟩) Q.length cp/\i=.int .i64 0) (fun _ _=>0)
  case atStart=>exact⟨rfl,rfl⟩
  obtain⟨rfl,rfl⟩:=hrel;have ai:xt.kids=[]:=List.eq_nil_of_length_eq_zero bJ.out;have bL:pcnt Q<gk:=by have:=HK.out;rw[Sj] at this;simp only[pcnt] at this;have:=Yz xt;omega
  go_wp2_with fail
  go_roundg (pcnt Q)
  case measure=>exact bL
  case rel =>
   refine⟨_,Q,rfl,?_,rfl,by omega⟩;have h:=HD.out.node (W4:=wr.setCell ⟨xg,xo+3,none⟩ (.slice none 0 0)) (lv':=.slice (some ⟨g,0,none⟩) Q.length cp) (g':=wr.heap.size) (cap':=0) (A':=none) (fun q _ bN=>World.cell?_setCell_other _ _ _ _ (Ne.symm bN)) (ownsRow_setCell_other aK.out (by intro e;exact aX.out e.symm) _) rfl (HD.out.below.setCell aC _) (by simp[World.setCell]) (fun q _=>World.frozen?_setCell _ _ _ _) (by rw[ai];exact fun h=>absurd h (Nat.lt_irrefl 0)) (Below.heap_setCell wr _ _ _ (by exact Ne.symm aO)) (by rw[ai];exact World.cell?_setCell_same _ _ _ n3) (by rw[ai];exact QT _) (QU _) (QT _) (by rw[ai];exact fun h=>absurd h (Nat.lt_irrefl 0)) (by rw[ai];exact fun i hi=>absurd hi (Nat.not_lt_zero _));rw[ai] at h;simpa[YR,Xk] using h
 obtain⟨A2,c2,cs,e2,bZ,bY,au,av⟩:=cK.out;injection e2 with e3 e4 e5
 subst e3;subst e5;have aV:cs.length=xt.kids.length*4:=by have:=av.len;simpa[Z7,Nat.mul_comm] using this
 obtain⟨ad,rfl⟩:=au.some_ (by omega);have aG:ad.block<w.heap.size:=by
  obtain⟨g0,o0,h1,h2,_⟩:=au (by omega);cases h1;exact h2
 have aR:=hid (au.add ad rfl);have df:=hid av;have cB:=hid av.one;have aj:=hid aV;have bI:=hid hz;have i4:decide ((0:Int)<(xt.kids.length:Int))=true:=by rw[decide_eq_true_eq];omega
 obtain⟨ni,bG,bD,bC,bB⟩:=zF5;clear au av aV hz
 go_wp2_with first
  |(
    refine wpList_make_full _ rfl (.tmp 34) (.tmp 34) 22 rfl (wr.setCell ⟨xg,xo+3,none⟩ (.slice none 0 0)).heap.size 24 ni _ 4 Tryz.underlying22 bG bD bC .i64 .i64 _ _ xt.kids.length rfl rfl rfl rfl (by rw[bB];omega) (by simp[maxLen];omega) (QT _) ?_;intro WM ag af;obtain⟨m3,mf,aI,ah,bi,aY⟩:=zJi (c:=0) HD.out.below aC aB n3 aT rfl ag af aj.out aG aR.out;have bg:=hid ag;have aZ:=hid af;have az:Hid (wr.heap.size<WM.heap.size):=by
      rcases bg.out.2 with ⟨h,_⟩|⟨g0,c0,aI,e1,k2,k3,k4⟩
      ·cases h
      have h9:=(Array.getElem?_eq_some_iff.1 k3).1;have h8:(wr.setCell ⟨xg,xo+3,none⟩ (.slice none 0 0)).heap.size=wr.heap.size:=by simp[World.setCell]
      show wr.heap.size<WM.heap.size;omega
    clear ag af)
  |(
    refine zE3 rfl (.tmp 41) (.tmp 42) 22 rfl 24 4 Tryz.underlying22 zHh wr.heap.size xt.kids.length ad c1 rfl rfl aI 24 cs ah.out aj.out aY.out bi.out cB.out ?_;obtain⟨W4,aH⟩:∃W4,W4=(WM.setCell ⟨xg,xo+3,none⟩ (.slice (some ⟨wr.heap.size,0,none⟩) xt.kids.length xt.kids.length)).setRow wr.heap.size cs.toArray:=⟨_,rfl⟩;rw[<-aH];obtain⟨c4,aU⟩:=HD.out.copied (c1:=0) (lv':=.slice (some ⟨g,0,none⟩) Q.length cp) aK.out rfl n3 aZ.out bI.out bR az.out ah.out df.out aH;have dh:=hid aU;clear aH aU)
 have aJ:=hid (show some xg≠(Value.slice (some ⟨g,0,none⟩) Q.length cp).ownBlock from aX.out);clear HD bg aZ az ah bi aY aK m3 mf n0 n1 n2 aB aR;generalize wr.heap.size=G at *
 go_loopw [3,49] (fun l i aM=>∃j:Nat,j<=xt.kids.length/\i=.int .i64 j/\DI w aM 123 24 l t (Q++(YR G xt.kids).take j) (Q++YR G xt.kids)/\aM.cell? ⟨xg,xo+3,none⟩=some (.slice (some ⟨G,0,none⟩) xt.kids.length xt.kids.length)/\some xg≠l.ownBlock) (fun _ i _=>xt.kids.length-(intOf i).toNat)
 case atStart=>exact⟨0,QU _,rfl,by simpa using dh.out,c4,aJ.out⟩
 obtain⟨j,hj,rfl,ax,cj,aN⟩:=hrel;have aL:=hid ax;have aW:=hid aN;rcases Nat.lt_or_ge j xt.kids.length with aD|hge
 ·have i5:decide ((j:Int)<(xt.kids.length:Int))=true:=by rw[decide_eq_true_eq];omega
  have i6:(0:Int)<=(j:Int):=by omega
  have i7:(j:Int)<(xt.kids.length:Int):=by omega
  have az:=hid aD;have aQ:=hid (World.ownsRow.alloc ax.stack (.cells #[.pointer (some ⟨G,j*4,none⟩)] 123));rw[show (Q++(YR G xt.kids).take j).length=Q.length+j by simp[Rl];omega] at aQ;obtain⟨pi,bA,bz,bu,bn⟩:=info_parts zP1;clear ax aD aN
  go_wp2_with first
   |(
      refine UG _ rfl (.tmp 52) (.tmp 59) 151 rfl (w.heap.size+2) 123 pi _ 1 8 Tryz.underlying151 bA bz bu bn rfl (Nat.succ_pos 0) _ (Q.length+j) _ rfl aQ.out (fun _=>True) _ 1 1 [.pointer (some ⟨G,j*4,none⟩)] rfl rfl (zLg _ _ _ _ rfl) (by intro u hu;simp at hu;subst hu;rfl) (by unfold maxLen;omega) (by omega) (by have:=aL.out.box;simp;omega) ?_;intro v' w' h3 h4 h5;have HP:=hid (DI.pushed aL.out az.out rfl h3 h4 h5);have cZ:=hid (zHu h4 cj aW.out);have cO:=hid (zJc h5 cj aW.out);clear h3 h4 h5)
  go_roundw
  case rel=>exact⟨j+1,by omega,by go_num,HP.out,cZ.out,cO.out⟩
  case measure=>simp[intOf];omega
 obtain rfl:j=xt.kids.length:=by omega
 have i5:decide ((xt.kids.length:Int)<(xt.kids.length:Int))=false:=by rw[decide_eq_false_iff_not];omega
 clear ax
 go_wp2_with fail
 have bM:pcnt (Q++YR G xt.kids)<gk:=by
  have h1:=HK.out;rw[Sj] at h1 ⊢;rw[YR,zH3];simp only[pcnt] at h1;rw[XG] at h1;omega
 go_roundg (pcnt (Q++YR G xt.kids))
 case measure=>exact bM
 case rel =>
  refine⟨_,Q++YR G xt.kids,rfl,?_,rfl,by omega⟩;have h:=aL.out;rw[List.take_of_length_le (by rw[Rl];exact QT _)] at h;exact h
def Xb (w:World) (b:Nat) (ts:List Z9) (v:Value):Prop:=∃cs,w.ownsRow b 24 4 v ts.length cs/\ZK Z7 w (Yj b w v) ts cs
theorem Xb.rows {w:World} {b:Nat} {ts:List Z9} {v:Value} (h:Xb w b ts v):Z8 Z7 w (fun k=>b<=k/\k<w.heap.size) ts v:=by
 obtain⟨cs,h1,h2⟩:=h;exact Z8.of_own (E:=Z7) h1 (fun k hk=>⟨(h1.lt k hk).1,(h1.lt k hk).2⟩) (h2.keep (WI _ _) (fun k hk=>⟨hk.1,hk.2.1⟩))
theorem Xb.nil (w:World) (b:Nat):Xb w b [] (.slice none 0 0):=⟨[],World.ownsRow_nil _ _ _ _,rfl⟩
theorem Xb.below {w w':World} {b:Nat} {ts:List Z9} {v:Value} (h:Xb w b ts v) (hb:Below w.heap.size w w'):Xb w' b ts v:=by
 obtain⟨cs,h1,h2⟩:=h;exact⟨cs,Si _ h1 hb,h2.keep (S:=Yj b w v) (fun p hp=>hb.cell hp.2.1) (fun k hk=>⟨hk.1,QV hk.2.1 hb.size,hk.2.2⟩)⟩
theorem Xb.own_lt {w:World} {b:Nat} {ts:List Z9} {v:Value} (h:Xb w b ts v):∀k,v.ownBlock=some k->b<=k/\k<w.heap.size:=by
 obtain⟨cs,h1,_⟩:=h;exact fun k hk=>h1.lt k hk
theorem Xb.form {w:World} {b:Nat} {ts:List Z9} {v:Value} (h:Xb w b ts v):∃A c,v=.slice A ts.length c:=h.rows.form
section
variable {w:World} {b:Nat} {xss yss:List Z9} {v:Value}
theorem zMi {w':World} {v':Value} {cs rs:List Value} (h1:w.ownsRow b 24 4 v xss.length cs) (h2:ZK Z7 w (Yj b w v) xss cs) (aa:ZK Z7 w (Yj b w v) yss rs)
  (h3:w'.ownsRow b 24 4 v' (xss.length+yss.length) (cs++rs)) (h4:w.grownBy w' v.ownBlock) (h5:v'.ownBlock=v.ownBlock\/v'.ownBlock=some w.heap.size):Xb w' b (xss++yss) v':=by
 refine⟨cs++rs,by rw[List.length_append];exact h3,?_⟩;refine(h2.append aa).keep (S:=Yj b w v) (fun p hp=>World.cell?_of_block (h4.block p.block hp.2.1 hp.2.2)) (fun k hk=>⟨hk.1,QV hk.2.1 h4.size,?_⟩);rcases h5 with h5|h5
 ·rw[h5];exact hk.2.2
 rw[h5];intro e;injection e with e;have:=hk.2.1;omega
theorem zVq {ops:Array Oper} {rest:List Oper} {o:Oper} {a:Act} {Q:Exit->Act->World->Prop} (ax:o.guard=none) (s x:Operand)
  (ho:o.op=.call { callee:=.builtin .append,args:=#[s,x],argTypes:=#[22,22] })
  (b:Nat) (v:Value) (xss yss:List Z9) (hs:a.eval s=v) (aa:Xb w b xss v) (A:Option Addr) (m c:Nat) (hx:a.eval x=.slice A m c) (hr:Z8 Z7 w (Yj b w v) yss (.slice A m c))
  (ag:xss.length+yss.length<=1000000000) (hb:b<=w.heap.size)
  (h:∀v' w',Xb w' b (xss++yss) v'->Below b w w'->wpList Tryz.prog ops Q rest (a.put o.dst v') w'):wpList Tryz.prog ops Q (o::rest) a w:=by
 obtain⟨i0,av,aj,ai,ah⟩:=zF5;obtain⟨A',cap',rs,e,h1,h2,ak,af⟩:=hr;injection e with e1 e2 e3
 subst e1 e2 e3;obtain⟨cs,ae,au⟩:=aa;have hl:=af.len;refine UG w ax s x 22 ho b 24 i0 _ 4 56 Tryz.underlying22 av aj ai ah rfl (by omega) v _ _ hs ae _ A _ c rs hx hl ak af.one (by simp only[maxLen];omega) (by omega) hb ?_;intro v' w' h3 h4 h5;exact h v' w' (zMi ae au af h3 h4 h5) (WF _ ae h4 hb)
end
theorem Wd {w2:World} {b b2:Nat} {t:Z9} {v u:Value} (aa:Zt t) (hu:Z8 Z7 w2 (fun k=>b2<=k/\k<w2.heap.size) t.kids u) (hb:b<=b2) (hv:∀k,v.ownBlock=some k->k<b2) (h2:b2<=w2.heap.size) (g:Nat) (hg:g=w2.heap.size) (e:TypeId) :
  Z8 Z7 (w2.alloc (.cells #[.int .i64 t.kind,.string t.text,.int .i64 t.cols,u] e)) (Yj b (w2.alloc (.cells #[.int .i64 t.kind,.string t.text,.int .i64 t.cols,u] e)) v) [t] (.slice (some ⟨g,0,none⟩) 1 1):=by
 subst hg;have hi:Z8 Z7 (w2.alloc (.cells #[.int .i64 t.kind,.string t.text,.int .i64 t.cols,u] e)) (Yj b (w2.alloc (.cells #[.int .i64 t.kind,.string t.text,.int .i64 t.cols,u] e)) v) t.kids u :=
  hu.keep (fun p hp=>(Xx _ _).cell hp.2) (fun k hk=>⟨QP hb hk.1,by simp;omega,fun e=>by have:=hv k e.symm;omega⟩)
 refine⟨_,_,[.int .i64 t.kind,.string t.text,.int .i64 t.cols,u],rfl,QT _,by simp[maxLen],fun _=>⟨w2.heap.size,0,rfl,⟨by omega,by simp,fun e=>by have:=hv _ e.symm;omega⟩,fun j x hx=>?_⟩,ZK.single (E:=Z7) (YI.2 ⟨u,rfl,aa.1,aa.2.1,aa.2.2,hi⟩)⟩;rw[Nat.zero_add,World.cell?_alloc_new];simpa using hx
theorem zFu:(ts:List Z9)->(i:Nat)->(k:Z9)->(hi:i<ts.length)->ZT (ts.set i k)+ZW ts[i]=ZT ts+ZW k
 |t::ts,0,k,_=>by simp[ZT];omega
 |
  t::ts,i+1,k,hi=>by
  have:=zFu ts i k (by simpa using hi);simp only[List.set_cons_succ,ZT,List.getElem_cons_succ];omega
theorem Tf (t:Z9) (i:Nat) (k:Z9) (X:Nat) (h:∀hi:i<t.kids.length,ZW k<=ZW t.kids[i]+X):ZW (Y0 t i k)<=ZW t+X:=by
 rw[XG,XG t];show 1+ZT (t.kids.set i k)<=_;rcases Nat.lt_or_ge i t.kids.length with hi|hi
 ·have h1:=zFu t.kids i k hi;have h2:=h hi;omega
 rw[List.set_eq_of_length_le hi];omega
theorem UL {t:Z9} {i:Int} (hi:i.toNat<t.kids.length):ZY t i=t.kids[i.toNat]:=by
 unfold ZY;rw[List.getD_eq_getElem?_getD,List.getElem?_eq_getElem hi];rfl
theorem zLd:(p:List Int)->(t:Z9)->(l:List Z9)->ZW (ZV t p l)<=ZW t+(ZT l+1)
 |[],t,l=>by simp only[ZV,Z6,ZW];omega
 |[_],t,l=>by simp only[ZV,Z6,ZW];omega
 |
  i::k::p,t,l=>by
  rw[ZV];refine Tf _ _ _ _ fun hi=>?_
  rw[UL hi];refine Tf _ _ _ _ fun hk=>?_
  rw[UL hk];exact zLd p _ l
theorem zD4 (ts:List Z9) (k:Nat):ZT (ts.drop k)<=ZT ts:=by
 have h:=Ua (ts.take k) (ts.drop k);rw[List.take_append_drop] at h;omega
theorem RH (l:List Z9) (a b:Nat) (bs:List Z9):ZT (Zk l a b bs)<=2*ZT l+ZT bs:=by
 unfold Zk;rw[Ua,Ua];have h1:=Xy l a;have h2:=zD4 l b;omega
theorem zGq (l:List Z9) (a:Nat):ZW (l.getD a ZJ)<=ZT l+1:=by
 rw[List.getD_eq_getElem?_getD];rcases Nat.lt_or_ge a l.length with h|h
 ·rw[List.getElem?_eq_getElem h];have h1:=WV h;have h2:=Xy l (a+1);show ZW l[a]<=_;omega
 rw[List.getElem?_eq_none h];show ZW ZJ<=_;have:ZW ZJ=1:=rfl;omega
theorem zQb (t:Z9) (i:Int):ZT (ZY t i).kids<=ZW t:=by
 have h:=zGq t.kids i.toNat;have h2:=XG (t.kids.getD i.toNat ZJ);have h3:=XG t;show ZT (t.kids.getD i.toNat ZJ).kids<=_;omega
theorem zMa (l:List Z9) (op:ZB):ZT (ZC l op).1<=4*ZT l+ZT op.nodes+4:=by
 unfold ZC;split
 ·exact QU _
 split
 ·have:=RH l op.at_.toNat op.at_.toNat op.nodes;show ZT (Zk _ _ _ _)<=_;omega
 split
 ·split
  ·have:=RH l op.at_.toNat (op.at_+op.nodes.length).toNat [];have h0:ZT ([]:List Z9)=0:=rfl;show ZT (Zk _ _ _ _)<=_;omega
  exact QU _
 split
 ·have h1:=RH l op.at_.toNat (op.at_+op.n).toNat [Zp (op.nodes.headD ZJ) op.slot.toNat ((l.take (op.at_+op.n).toNat).drop op.at_.toNat)];have h2:ZW (Zp (op.nodes.headD ZJ) op.slot.toNat ((l.take (op.at_+op.n).toNat).drop op.at_.toNat))<=ZW (op.nodes.headD ZJ)+(ZT l+1):=by
   refine Tf _ _ _ _ fun hi=>?_
   have h3:=zD4 (l.take (op.at_+op.n).toNat) op.at_.toNat;have h4:=Xy l (op.at_+op.n).toNat;simp only[Z6,ZW];omega
  have h5:ZW (op.nodes.headD ZJ)<=ZT op.nodes+1:=by
   cases op.nodes with
   |nil=>exact QT _
   |cons x xs=>simp only[List.headD_cons,ZT];omega
  have h6:∀x:Z9,ZT [x]=ZW x:=fun x=>rfl
  rw[h6] at h1;show ZT (Zk _ _ _ _)<=_;omega
 split
 ·split
  ·exact QU _
  have h1:=RH l op.at_.toNat (op.at_+1).toNat (ZY (l.getD op.at_.toNat ZJ) op.slot).kids;have h2:=zQb (l.getD op.at_.toNat ZJ) op.slot;have h3:=zGq l op.at_.toNat;show ZT (Zk _ _ _ _)<=_;omega
 split
 ·have h1:=RH l op.at_.toNat (op.at_+1).toNat [.mk (l.getD op.at_.toNat ZJ).kind op.text (l.getD op.at_.toNat ZJ).cols (l.getD op.at_.toNat ZJ).kids];have h6:ZT [Z9.mk (l.getD op.at_.toNat ZJ).kind op.text (l.getD op.at_.toNat ZJ).cols (l.getD op.at_.toNat ZJ).kids]=ZW (l.getD op.at_.toNat ZJ):=by
   rw[XG (l.getD op.at_.toNat ZJ)];rfl
  have h3:=zGq l op.at_.toNat;rw[h6] at h1;show ZT (Zk _ _ _ _)<=_;omega
 exact QU _
theorem zO2 (t:Z9):1<=ZW t:=by rw[XG];omega
theorem Vq:(t:Z9)->(p:List Int)->ZW (ZM t p).1<=ZW t
 |t,[]=>by simp[ZM]
 |t,[_]=>by simp[ZM]
 |
  t,i::k::p=>by
  have hz:ZW ZJ<=ZW t:=zO2 t;rw[ZM];split
  ·rename_i hi;split
   ·rename_i hk;have h0:=Vq ((t.kids[i.toNat]'hi.2).kids[k.toNat]'hk.2) p;have e1:ZW t.kids[i.toNat]<=ZW t:=by
     rw[XG t];have:=WV hi.2;have:=Xy t.kids (i.toNat+1);omega
    have e2:ZW t.kids[i.toNat].kids[k.toNat]<=ZW t.kids[i.toNat]:=by
     rw[XG t.kids[i.toNat]];have:=WV hk.2;have:=Xy t.kids[i.toNat].kids (k.toNat+1);omega
    omega
   exact hz
  exact hz
theorem zE5 (t:Z9) (p:List Int) {m:Nat} (h:ZW t<=m):ZT (ZR t p).1.kids<=m:=by
 have hz:ZT ZJ.kids<=m:=QU _;unfold ZR;split
 ·exact hz
 split
 ·exact hz
 have h1:=Vq t p;have h2:=XG (ZM t p).1;show ZT (ZM t p).1.kids<=m;omega
theorem zGx {t:Z9} {p:List Int} (hv:ZN t=true) (h:(ZR t p).2=0):(ZM t p).2=true/\(ZR t p).1=(ZM t p).1:=by
 unfold ZR at h ⊢;rw[if_neg (by simp[hv])] at h ⊢;split at h
 ·simp at h
 rename_i h1;rw[if_neg h1];exact⟨by simpa using h1,rfl⟩
theorem X0 {t:Z9} (h:ZN t=true):ZW t<=1000/\t.kind=1/\Zd t=true/\Y8 t<=24:=by
 unfold ZN at h;simp only[Bool.and_eq_true,decide_eq_true_eq,beq_iff_eq] at h;exact⟨by omega,h.1.1.1,h.1.1.2,by omega⟩
theorem zUr (p:Xw) (after:Bool) (Ar An As:Option Addr) (lr cr ln cn cs:Nat) (w:World) (hp:p.Ok) (hs:Z0 w (Lt w.heap.size) p.rest (.slice As p.rest.length cs)) :
  Calls Tryz.prog 129 #[.agg (Xu p (.slice Ar lr cr) (.slice An ln cn) (.slice As p.rest.length cs)),.bool after] w (WZ w (WW p after)):=by
 have H:=hid (QS hp hs);obtain⟨aA,hn,ah,hk,ak,au,aj,ai,av⟩:=hp;unfold Bd at aA hn ah ak au;obtain⟨aH,aG⟩:=aA;obtain⟨ay,ax⟩:=ak;obtain⟨hn1,hn2⟩:=hn;obtain⟨aC,aB⟩:=ah;obtain⟨hs1,hs2⟩:=au;have aD:=hid av;clear aj ai av hs;obtain⟨⟨kind,row,at_,n,nodes,aa,old,text⟩,k,index,inside,slot,rest⟩:=p;simp only[Xu] at *;rcases Int.lt_trichotomy index at_ with aF|az|hgt
 ·have ae:WW ⟨⟨kind,row,at_,n,nodes,aa,old,text⟩,k,index,inside,slot,rest⟩ after=YU ⟨⟨kind,row,at_,n,nodes,aa,old,text⟩,k,index,inside,slot,rest⟩ [index]:=by unfold WW;rw[if_pos (Or.inl aF)]
  have HF:=hid ae;clear ae;go_enter Tryz.func129,Tryz.ntmps129
  go_wp2_with fail
  refine(Ya _ Ar An As lr cr ln cn cs w _ H.out.1 H.out.2 (by first|exact ZO _ _|exact YX (ZO _ _) _) [index] (m1 _) (by simp) _ _ rfl (by simp) _ rfl).mono ?_;rintro e w1 ⟨v1,rfl,af,ag⟩;have HV:=hid af;have HB:=hid ag;clear af ag
  go_wp2_with fail
  go_ret;rw[HF.out];exact⟨_,rfl,HV.out,HB.out⟩
 ·subst az;cases inside with
  |
   false =>
   cases after with
   |
    false =>
    have ae:WW ⟨⟨kind,row,index,n,nodes,aa,old,text⟩,k,index,false,slot,rest⟩ false=YU ⟨⟨kind,row,index,n,nodes,aa,old,text⟩,k,index,false,slot,rest⟩ [index]:=by unfold WW;rw[if_pos (Or.inr ⟨rfl,rfl,rfl⟩)]
    have HF:=hid ae;clear ae;go_enter Tryz.func129,Tryz.ntmps129
    go_wp2_with fail
    refine(Ya _ Ar An As lr cr ln cn cs w _ H.out.1 H.out.2 (by first|exact ZO _ _|exact YX (ZO _ _) _) [index] (m1 _) (by simp) _ _ rfl (by simp) _ rfl).mono ?_;rintro e w1 ⟨v1,rfl,af,ag⟩;have HV:=hid af;have HB:=hid ag;clear af ag
    go_wp2_with fail
    go_ret;rw[HF.out];exact⟨_,rfl,HV.out,HB.out⟩
   |
    true =>
    have ae:WW ⟨⟨kind,row,index,n,nodes,aa,old,text⟩,k,index,false,slot,rest⟩ true=YU ⟨⟨kind,row,index,n,nodes,aa,old,text⟩,k,index,false,slot,rest⟩ [index+k]:=by unfold WW;rw[if_neg (by simp)]
    have HF:=hid ae;clear ae;go_enter Tryz.func129,Tryz.ntmps129
    go_wp2_with fail
    refine(Ya _ Ar An As lr cr ln cn cs w _ H.out.1 H.out.2 (by first|exact ZO _ _|exact YX (ZO _ _) _) [index+k] (m1 _) (by simp) _ _ rfl (by simp) _ rfl).mono ?_;rintro e w1 ⟨v1,rfl,af,ag⟩;have HV:=hid af;have HB:=hid ag;clear af ag
    go_wp2_with fail
    go_ret;rw[HF.out];exact⟨_,rfl,HV.out,HB.out⟩
  |
   true =>
   have ae:WW ⟨⟨kind,row,index,n,nodes,aa,old,text⟩,k,index,true,slot,rest⟩ after=YU ⟨⟨kind,row,index,n,nodes,aa,old,text⟩,k,index,true,slot,rest⟩ [index+k]:=by unfold WW;rw[if_neg (by simp)]
   have HF:=hid ae;clear ae;go_enter Tryz.func129,Tryz.ntmps129
   go_wp2_with fail
   refine(Ya _ Ar An As lr cr ln cn cs w _ H.out.1 H.out.2 (by first|exact ZO _ _|exact YX (ZO _ _) _) [index+k] (m1 _) (by simp) _ _ rfl (by simp) _ rfl).mono ?_;rintro e w1 ⟨v1,rfl,af,ag⟩;have HV:=hid af;have HB:=hid ag;clear af ag
   go_wp2_with fail
   go_ret;rw[HF.out];exact⟨_,rfl,HV.out,HB.out⟩
 have az:(index==at_)=false:=by simp;omega
 have ae:WW ⟨⟨kind,row,at_,n,nodes,aa,old,text⟩,k,index,inside,slot,rest⟩ after=YU ⟨⟨kind,row,at_,n,nodes,aa,old,text⟩,k,index,inside,slot,rest⟩ [index+k]:=by unfold WW;rw[if_neg (by simp;omega)]
 have HF:=hid ae;clear ae;go_enter Tryz.func129,Tryz.ntmps129
 go_wp2_with fail
 refine(Ya _ Ar An As lr cr ln cn cs w _ H.out.1 H.out.2 (by first|exact ZO _ _|exact YX (ZO _ _) _) [index+k] (m1 _) (by simp) _ _ rfl (by simp) _ rfl).mono ?_;rintro e w1 ⟨v1,rfl,af,ag⟩;have HV:=hid af;have HB:=hid ag;clear af ag
 go_wp2_with fail
 go_ret;rw[HF.out];exact⟨_,rfl,HV.out,HB.out⟩
theorem zUi (p:Xw) (Ar An As:Option Addr) (lr cr ln cn cs:Nat) (w:World) (hp:p.Ok) (hs:Z0 w (Lt w.heap.size) p.rest (.slice As p.rest.length cs)) :
  Calls Tryz.prog 130 #[.agg (Xu p (.slice Ar lr cr) (.slice An ln cn) (.slice As p.rest.length cs))] w (Q4 w (Xl p)):=by
 have H:=hid (QS hp hs);obtain⟨aB,hn,ah,hk,au,av,ak,aj,ax⟩:=hp;unfold Bd at aB hn ah au av;obtain⟨aI,aH⟩:=aB;obtain⟨az,ay⟩:=au;obtain⟨hn1,hn2⟩:=hn;obtain⟨aD,aC⟩:=ah;obtain⟨hs1,hs2⟩:=av;have aF:=hid ax;clear ak aj ax hs;obtain⟨⟨kind,row,at_,n,nodes,ae,old,text⟩,k,index,inside,slot,rest⟩:=p;simp only[Xu] at *;rcases Int.lt_trichotomy index at_ with aG|aA|hgt
 ·have aa:Xl ⟨⟨kind,row,at_,n,nodes,ae,old,text⟩,k,index,inside,slot,rest⟩=(YU ⟨⟨kind,row,at_,n,nodes,ae,old,text⟩,k,index,inside,slot,rest⟩ [index],false):=by unfold Xl;rw[if_pos (Or.inl aG)]
  have HF:=hid aa;clear aa;go_enter Tryz.func130,Tryz.ntmps130
  go_wp2_with fail
  refine(Ya _ Ar An As lr cr ln cn cs w _ H.out.1 H.out.2 (by first|exact ZO _ _|exact YX (ZO _ _) _) [index] (m1 _) (by simp) _ _ rfl (by simp) _ rfl).mono ?_;rintro e w1 ⟨v1,rfl,af,ag⟩;have HV:=hid af;have HB:=hid ag;clear af ag
  go_wp2_with fail
  go_ret2
  rw[HF.out];exact⟨_,rfl,HV.out,HB.out⟩
 ·subst aA;cases inside with
  |
   false =>
   have aa:Xl ⟨⟨kind,row,index,n,nodes,ae,old,text⟩,k,index,false,slot,rest⟩=(YU ⟨⟨kind,row,index,n,nodes,ae,old,text⟩,k,index,false,slot,rest⟩ [index],false):=by unfold Xl;rw[if_pos (Or.inr ⟨rfl,rfl⟩)]
   have HF:=hid aa;clear aa;go_enter Tryz.func130,Tryz.ntmps130
   go_wp2_with fail
   refine(Ya _ Ar An As lr cr ln cn cs w _ H.out.1 H.out.2 (by first|exact ZO _ _|exact YX (ZO _ _) _) [index] (m1 _) (by simp) _ _ rfl (by simp) _ rfl).mono ?_;rintro e w1 ⟨v1,rfl,af,ag⟩;have HV:=hid af;have HB:=hid ag;clear af ag
   go_wp2_with fail
   go_ret2
   rw[HF.out];exact⟨_,rfl,HV.out,HB.out⟩
  |
   true =>
   by_cases ai:index<index+(k:Int)
   ·have aa:Xl ⟨⟨kind,row,index,n,nodes,ae,old,text⟩,k,index,true,slot,rest⟩=([index],true):=by unfold Xl;rw[if_neg (by simp),if_pos ai]
    have hd:decide (index<index+(k:Int))=true:=by simpa using ai
    have HF:=hid aa;clear aa;go_enter Tryz.func130,Tryz.ntmps130
    go_wp2_with fail
    go_ret2
    rw[HF.out];exact⟨_,rfl,Yg (by first|exact ZO _ _|exact YX (ZO _ _) _) [index] (m1 _) (by simp) _ _ rfl (by simp) _ rfl⟩
   have aa:Xl ⟨⟨kind,row,index,n,nodes,ae,old,text⟩,k,index,true,slot,rest⟩=(YU ⟨⟨kind,row,index,n,nodes,ae,old,text⟩,k,index,true,slot,rest⟩ [index-k],false):=by unfold Xl;rw[if_neg (by simp),if_neg ai]
   have hd:decide (index<index+(k:Int))=false:=by simpa using ai
   have HF:=hid aa;clear aa;go_enter Tryz.func130,Tryz.ntmps130
   go_wp2_with fail
   refine(Ya _ Ar An As lr cr ln cn cs w _ H.out.1 H.out.2 (by first|exact ZO _ _|exact YX (ZO _ _) _) [index-k] (m1 _) (by simp) _ _ rfl (by simp) _ rfl).mono ?_;rintro e w1 ⟨v1,rfl,af,ag⟩;have HV:=hid af;have HB:=hid ag;clear af ag
   go_wp2_with fail
   go_ret2
   rw[HF.out];exact⟨_,rfl,HV.out,HB.out⟩
 have aA:(index==at_)=false:=by simp;omega
 by_cases ai:index<at_+(k:Int)
 ·have aa:Xl ⟨⟨kind,row,at_,n,nodes,ae,old,text⟩,k,index,inside,slot,rest⟩=([at_],true):=by unfold Xl;rw[if_neg (by simp;omega),if_pos ai]
  have HF:=hid aa;clear aa;go_enter Tryz.func130,Tryz.ntmps130
  go_wp2_with fail
  go_ret2
  rw[HF.out];exact⟨_,rfl,Yg (by first|exact ZO _ _|exact YX (ZO _ _) _) [at_] (m1 _) (by simp) _ _ rfl (by simp) _ rfl⟩
 have aa:Xl ⟨⟨kind,row,at_,n,nodes,ae,old,text⟩,k,index,inside,slot,rest⟩=(YU ⟨⟨kind,row,at_,n,nodes,ae,old,text⟩,k,index,inside,slot,rest⟩ [index-k],false):=by unfold Xl;rw[if_neg (by simp;omega),if_neg ai]
 have HF:=hid aa;clear aa;go_enter Tryz.func130,Tryz.ntmps130
 go_wp2_with fail
 refine(Ya _ Ar An As lr cr ln cn cs w _ H.out.1 H.out.2 (by first|exact ZO _ _|exact YX (ZO _ _) _) [index-k] (m1 _) (by simp) _ _ rfl (by simp) _ rfl).mono ?_;rintro e w1 ⟨v1,rfl,af,ag⟩;have HV:=hid af;have HB:=hid ag;clear af ag
 go_wp2_with fail
 go_ret2
 rw[HF.out];exact⟨_,rfl,HV.out,HB.out⟩
theorem zUg (p:Xw) (Ar An As:Option Addr) (lr cr ln cn cs:Nat) (w:World) (hp:p.Ok) (hs:Z0 w (Lt w.heap.size) p.rest (.slice As p.rest.length cs)) :
  Calls Tryz.prog 132 #[.agg (Xu p (.slice Ar lr cr) (.slice An ln cn) (.slice As p.rest.length cs))] w (Q4 w (Xm p)):=by
 have H:=hid (QS hp hs);obtain⟨aB,hn,ah,hk,ak,ax,aj,ai,ay⟩:=hp;unfold Bd at aB hn ah ak ax;obtain⟨aJ,aI⟩:=aB;obtain⟨aA,az⟩:=ak;obtain⟨hn1,hn2⟩:=hn;obtain⟨aD,aC⟩:=ah;obtain⟨hs1,hs2⟩:=ax;have au:=hid ay;clear aj ai ay hs;obtain⟨⟨kind,row,at_,n,nodes,ae,old,text⟩,k,index,inside,slot,rest⟩:=p;simp only[Xu] at *;rcases Int.lt_trichotomy index at_ with aG|av|aH
 ·have av:(index==at_)=false:=by simp;omega
  have aa:Xm ⟨⟨kind,row,at_,n,nodes,ae,old,text⟩,k,index,inside,slot,rest⟩=(YU ⟨⟨kind,row,at_,n,nodes,ae,old,text⟩,k,index,inside,slot,rest⟩ [index],false):=by unfold Xm;rw[if_pos (Or.inl aG)]
  cases inside
  ·skip
   have HF:=hid aa;clear aa;go_enter Tryz.func132,Tryz.ntmps132
   go_wp2_with fail
   go_quiet (fail)
   go_wp2_with fail
   refine(Ya _ Ar An As lr cr ln cn cs w _ H.out.1 H.out.2 (by first|exact ZO _ _|exact YX (ZO _ _) _) [index] (m1 _) (by simp) _ _ rfl (by simp) _ rfl).mono ?_;rintro e w1 ⟨v1,rfl,af,ag⟩;have HV:=hid af;have HB:=hid ag;clear af ag
   go_wp2_with fail
   go_ret2
   rw[HF.out];exact⟨_,rfl,HV.out,HB.out⟩
  skip
  have HF:=hid aa;clear aa;go_enter Tryz.func132,Tryz.ntmps132
  go_wp2_with fail
  go_quiet (fail)
  go_wp2_with fail
  refine(Ya _ Ar An As lr cr ln cn cs w _ H.out.1 H.out.2 (by first|exact ZO _ _|exact YX (ZO _ _) _) [index] (m1 _) (by simp) _ _ rfl (by simp) _ rfl).mono ?_;rintro e w1 ⟨v1,rfl,af,ag⟩;have HV:=hid af;have HB:=hid ag;clear af ag
  go_wp2_with fail
  go_ret2
  rw[HF.out];exact⟨_,rfl,HV.out,HB.out⟩
 ·subst av;cases inside with
  |
   false =>
   have aa:Xm ⟨⟨kind,row,index,n,nodes,ae,old,text⟩,k,index,false,slot,rest⟩=(YU ⟨⟨kind,row,index,n,nodes,ae,old,text⟩,k,index,false,slot,rest⟩ [index],false):=by unfold Xm;rw[if_pos (Or.inr ⟨rfl,rfl⟩)]
   have HF:=hid aa;clear aa;go_enter Tryz.func132,Tryz.ntmps132
   go_wp2_with fail
   go_quiet (fail)
   go_wp2_with fail
   refine(Ya _ Ar An As lr cr ln cn cs w _ H.out.1 H.out.2 (by first|exact ZO _ _|exact YX (ZO _ _) _) [index] (m1 _) (by simp) _ _ rfl (by simp) _ rfl).mono ?_;rintro e w1 ⟨v1,rfl,af,ag⟩;have HV:=hid af;have HB:=hid ag;clear af ag
   go_wp2_with fail
   go_ret2
   rw[HF.out];exact⟨_,rfl,HV.out,HB.out⟩
  |
   true =>
   rcases Int.lt_trichotomy slot ae with hs|hs|hs
   ·have aa:Xm ⟨⟨kind,row,index,n,nodes,ae,old,text⟩,k,index,true,slot,rest⟩=([index],true):=by unfold Xm;rw[if_neg (by simp),if_neg (by simp),if_pos hs]
    have HF:=hid aa;clear aa;go_enter Tryz.func132,Tryz.ntmps132
    go_wp2_with fail
    go_quiet (fail)
    go_wp2_with fail
    go_ret2
    rw[HF.out];exact⟨_,rfl,Yg (by first|exact ZO _ _|exact YX (ZO _ _) _) [index] (m1 _) (by simp) _ _ rfl (by simp) _ rfl⟩
   ·subst hs;cases rest with
    |nil=>exact absurd (au.out rfl) (by simp)
    |
     cons r rest =>
     have aa:Xm ⟨⟨kind,row,index,n,nodes,slot,old,text⟩,k,index,true,slot,r::rest⟩=((index+r)::rest,false):=by unfold Xm;simp
     rw[aa];exact zU2 kind row n nodes old text k index slot r rest Ar An As lr cr ln cn cs w H.out.1 H.out.2
   have aa:Xm ⟨⟨kind,row,index,n,nodes,ae,old,text⟩,k,index,true,slot,rest⟩=([index+n],true):=by unfold Xm;rw[if_neg (by simp),if_neg (by simp),if_neg (by simp;omega),if_pos hs]
   have HF:=hid aa;clear aa;go_enter Tryz.func132,Tryz.ntmps132
   go_wp2_with fail
   go_quiet (fail)
   go_wp2_with fail
   go_ret2
   rw[HF.out];exact⟨_,rfl,Yg (by first|exact ZO _ _|exact YX (ZO _ _) _) [index+n] (m1 _) (by simp) _ _ rfl (by simp) _ rfl⟩
 have av:(index==at_)=false:=by simp;omega
 have aF:decide (index<at_)=false:=by simp;omega
 have aa:Xm ⟨⟨kind,row,at_,n,nodes,ae,old,text⟩,k,index,inside,slot,rest⟩=(YU ⟨⟨kind,row,at_,n,nodes,ae,old,text⟩,k,index,inside,slot,rest⟩ [index-1+n],false):=by unfold Xm;rw[if_neg (by simp;omega),if_pos aH]
 cases inside
 ·skip
  have HF:=hid aa;clear aa;go_enter Tryz.func132,Tryz.ntmps132
  go_wp2_with fail
  go_quiet (fail)
  go_wp2_with fail
  refine(Ya _ Ar An As lr cr ln cn cs w _ H.out.1 H.out.2 (by first|exact ZO _ _|exact YX (ZO _ _) _) [index-1+n] (m1 _) (by simp) _ _ rfl (by simp) _ rfl).mono ?_;rintro e w1 ⟨v1,rfl,af,ag⟩;have HV:=hid af;have HB:=hid ag;clear af ag
  go_wp2_with fail
  go_ret2
  rw[HF.out];exact⟨_,rfl,HV.out,HB.out⟩
 skip
 have HF:=hid aa;clear aa;go_enter Tryz.func132,Tryz.ntmps132
 go_wp2_with fail
 go_quiet (fail)
 go_wp2_with fail
 refine(Ya _ Ar An As lr cr ln cn cs w _ H.out.1 H.out.2 (by first|exact ZO _ _|exact YX (ZO _ _) _) [index-1+n] (m1 _) (by simp) _ _ rfl (by simp) _ rfl).mono ?_;rintro e w1 ⟨v1,rfl,af,ag⟩;have HV:=hid af;have HB:=hid ag;clear af ag
 go_wp2_with fail
 go_ret2
 rw[HF.out];exact⟨_,rfl,HV.out,HB.out⟩
def WL (p:Xw) (after:Bool):List Int×Bool :=
 if p.op.kind=1 then (WW p after,false) else if p.op.kind=2 then Xl p else if p.op.kind=3 then (XT p after,false) else if p.op.kind=4 then Xm p else (YU p [p.index],false)
theorem zVe (p:Xw) (after:Bool) (Ar An As:Option Addr) (lr cr ln cn cs:Nat) (w:World) (hp:p.Ok) (hs:Z0 w (Lt w.heap.size) p.rest (.slice As p.rest.length cs)) :
  Calls Tryz.prog 98 #[.agg (Xu p (.slice Ar lr cr) (.slice An ln cn) (.slice As p.rest.length cs)),.bool after] w (Q4 w (WL p after)):=by
 obtain⟨o1,ax⟩:∃o,o=Obj.cells (Xu p (.slice Ar lr cr) (.slice An ln cn) (.slice As p.rest.length cs)) 127:=⟨_,rfl⟩;have ah:=hs.alloc o1;have av:=zUr p after Ar An As lr cr ln cn cs (w.alloc o1) hp ah;have au:=zUi p Ar An As lr cr ln cn cs (w.alloc o1) hp ah;have ak:=Wi p after Ar An As lr cr ln cn cs (w.alloc o1) hp ah;have aj:=zUg p Ar An As lr cr ln cn cs (w.alloc o1) hp ah;have ai:=Ya p Ar An As lr cr ln cn cs w (w.alloc o1) hp hs (ZO _ _) [p.index] (by intro x hx;simp at hx;subst hx;exact zVm hp.index) (by simp) 1 (w.heap.size+1) rfl (by simp) #[.int .i64 p.index] rfl;rw[ax] at av au ak aj ai;have H1:=hid av;have H2:=hid au;have H3:=hid ak;have H4:=hid aj;have H5:=hid ai;have HB:Hid (Below w.heap.size w (w.alloc (Obj.cells (Xu p (.slice Ar lr cr) (.slice An ln cn) (.slice As p.rest.length cs)) 127))):=ZO _ _;clear av au ak aj ai ax hs ah o1 hp;obtain⟨⟨kind,row,at_,n,nodes,ag,old,text⟩,k,index,inside,slot,rest⟩:=p;simp only[Xu] at *;by_cases h1:kind=1
 ·subst h1;go_enter Tryz.func98,Tryz.ntmps98
  go_wp2_with fail
  with_reducible refine H1.out.mono ?_
  rintro e w1 ⟨v1,rfl,aa,ae⟩;have HV:=hid aa;have af:=hid ae;clear aa ae
  go_wp2_with fail
  go_ret2
  exact⟨_,rfl,HV.out,HB.out.trans (af.out.mono HB.out.size)⟩
 have e1:(kind==1)=false:=by simpa using h1
 by_cases h2:kind=2
 ·subst h2;clear h1;go_enter Tryz.func98,Tryz.ntmps98
  go_wp2_with fail
  with_reducible refine H2.out.mono ?_
  rintro e w1 ⟨v1,rfl,aa,ae⟩;have HV:=hid aa;have af:=hid ae;clear aa ae
  go_wp2_with fail
  go_ret2
  exact⟨_,rfl,HV.out,HB.out.trans (af.out.mono HB.out.size)⟩
 have e2:(kind==2)=false:=by simpa using h2
 by_cases h3:kind=3
 ·subst h3;clear h1 h2;go_enter Tryz.func98,Tryz.ntmps98
  go_wp2_with fail
  with_reducible refine H3.out.mono ?_
  rintro e w1 ⟨v1,rfl,aa,ae⟩;have HV:=hid aa;have af:=hid ae;clear aa ae
  go_wp2_with fail
  go_ret2
  exact⟨_,rfl,HV.out,HB.out.trans (af.out.mono HB.out.size)⟩
 have e3:(kind==3)=false:=by simpa using h3
 by_cases h4:kind=4
 ·subst h4;clear h1 h2 h3;go_enter Tryz.func98,Tryz.ntmps98
  go_wp2_with fail
  with_reducible refine H4.out.mono ?_
  rintro e w1 ⟨v1,rfl,aa,ae⟩;have HV:=hid aa;have af:=hid ae;clear aa ae
  go_wp2_with fail
  go_ret2
  exact⟨_,rfl,HV.out,HB.out.trans (af.out.mono HB.out.size)⟩
 have e4:(kind==4)=false:=by simpa using h4
 have HF:Hid (WL ⟨⟨kind,row,at_,n,nodes,ag,old,text⟩,k,index,inside,slot,rest⟩ after=(YU ⟨⟨kind,row,at_,n,nodes,ag,old,text⟩,k,index,inside,slot,rest⟩ [index],false)):=by
  show _=_;unfold WL;simp[h1,h2,h3,h4]
 clear h1 h2 h3 h4;go_enter Tryz.func98,Tryz.ntmps98
 go_wp2_with fail
 with_reducible refine H5.out.mono ?_
 rintro e w1 ⟨v1,rfl,aa,ae⟩;have HV:=hid aa;have af:=hid ae;clear aa ae
 go_wp2_with fail
 go_ret2
 rw[HF.out];exact⟨_,rfl,HV.out,af.out⟩
abbrev zTb:Array Value:=#[.int .i64 0,.slice none 0 0,.int .i64 0,.int .i64 0,.slice none 0 0,.int .i64 0,.string ⟨#[]⟩,.string ⟨#[]⟩,.int .i64 0,.int .i64 0,.bool false,.int .i64 0,.slice none 0 0]
def XQ (op:ZB) (pos:List Int):Xw :=
 if op.row.length+1<pos.length then ⟨op,op.nodes.length,pos.getD op.row.length 0,true,pos.getD (op.row.length+1) 0,pos.drop (op.row.length+2)⟩
 else ⟨op,op.nodes.length,pos.getD op.row.length 0,false,0,[]⟩
theorem Wz (w:World) (o:Obj) (n:Nat):(w.alloc o).drewN n=(w.drewN n).alloc o:=rfl
theorem SH (op:ZB) (pos:List Int) (vr vn vp:Value) (Ar An Ap:Option Addr) (cr cn cp:Nat) (w:World) (aj:op.Ok) (hr:Z0 w (Lt w.heap.size) op.row (.slice Ar op.row.length cr)) (af:Z0 w (Lt w.heap.size) pos (.slice Ap pos.length cp)) (hpl:pos.length<=100000)
  (hw:Yt pos op.row=false) :
  Calls Tryz.prog 96 #[.agg (Zu op (.slice Ar op.row.length cr) (.slice An op.nodes.length cn)),.slice Ap pos.length cp] w
   fun e w'=>e=.returned (.tuple #[.agg zTb,.bool false])/\Below w.heap.size w w':=by
 obtain⟨hat,hn,ag,hnl,hrl⟩:=aj;have hc1:pos.length<=cp:=by obtain⟨A,cap,cs,e,h1,_⟩:=af;injection e with _ _ e3;omega
 obtain⟨kind,row,at_,n,nodes,slot,old,text⟩:=op;simp only[Zu] at *;by_cases h1:pos.length<=row.length
 ·go_enter Tryz.func96,Tryz.ntmps96
  go_wp2_with fail
  go_quiet (fail)
  rw[Wz,Wz];generalize aa:w.drewN nq=w0;have ae:w0.heap.size=w.heap.size:=by rw[<-aa];rfl
  have HB:Hid (Below w.heap.size w w0):=by rw[<-aa];exact YX (QQ _ _) _
  clear aa
  go_wp2_with fail
  refine bodyPost_ret (v:=.tuple #[.agg #[.int .i64 0,.slice none 0 0,.int .i64 0,.int .i64 0,.slice none 0 0,.int .i64 0,.string ⟨#[]⟩,.string ⟨#[]⟩,.int .i64 0,.int .i64 0,.bool false,.int .i64 0,.slice none 0 0],.bool false]) (by simp[results,Tryz.results96,go_sem,ae]) rfl ?_;exact⟨rfl,HB.out.trans (((ZO _ _).trans ((ZO _ _).mono (by simp))).mono (by omega))⟩
 have e1:decide (pos.length<=row.length)=false:=by simpa using h1
 have hw1:IntKind.i64.wrap ((row.length:Int)+2)=(row.length:Int)+2:=IntWalk.i64_in _ (by omega);by_cases h2:pos.length=row.length+2
 ·have e2:((pos.length:Int)==(row.length:Int)+2)=true:=by simp;omega
  clear h2 h1;go_enter Tryz.func96,Tryz.ntmps96
  go_wp2_with fail
  go_quiet (fail)
  rw[Wz,Wz];generalize aa:w.drewN nq=w0;have ae:w0.heap.size=w.heap.size:=by rw[<-aa];rfl
  have HB:Hid (Below w.heap.size w w0):=by rw[<-aa];exact YX (QQ _ _) _
  clear aa
  go_wp2_with fail
  refine bodyPost_ret (v:=.tuple #[.agg #[.int .i64 0,.slice none 0 0,.int .i64 0,.int .i64 0,.slice none 0 0,.int .i64 0,.string ⟨#[]⟩,.string ⟨#[]⟩,.int .i64 0,.int .i64 0,.bool false,.int .i64 0,.slice none 0 0],.bool false]) (by simp[results,Tryz.results96,go_sem,ae]) rfl ?_;exact⟨rfl,HB.out.trans (((ZO _ _).trans ((ZO _ _).mono (by simp))).mono (by omega))⟩
 have e2:((pos.length:Int)==(row.length:Int)+2)=false:=by simp;omega
 have ah:pos.take row.length≠row:=by
  intro h;have:Yt pos row=true:=by unfold Yt;exact decide_eq_true ⟨by omega,h,h2⟩
  rw[this] at hw;cases hw
 obtain⟨A1,hsl,hcut⟩:=UJ ZF Tryz.underlying25 XA Ap pos.length cp row.length row.length rfl (by omega) hc1;have hd:decide (pos.take row.length=row)=false:=decide_eq_false ah;have o1:=Obj.cells #[.int .i64 kind,.slice Ar row.length cr,.int .i64 at_,.int .i64 n,.slice An nodes.length cn,.int .i64 slot,.string old,.string text] 49;have ai:∀W,Below w.heap.size w W->Calls Tryz.prog 120 #[.slice A1 row.length cp,.slice Ar row.length cr] W fun e w'=>e=.returned (.bool false)/\∃n,w'=W.drewN n:=by
  intro W hW;have:=zS7 (pos.take row.length) row W _ _ _ _ ((hcut _ _ _ af).below hW (QT _)) (hr.below hW (QT _));rw[hd] at this;exact this
 have HE:=hid ai;have hr1:(row.length:Int)<=(pos.length:Int):=by omega
 clear ah h2 h1 hcut hd ai o1;go_enter Tryz.func96,Tryz.ntmps96
 go_wp2_with fail
 go_quiet ((go_at_call 120;exact Calls.quiet_of (HE.out _ (YX (((ZO _ _).trans ((ZO _ _).mono (by simp)))) _))))
 rw[Wz,Wz];generalize aa:w.drewN nq=w0;have ae:w0.heap.size=w.heap.size:=by rw[<-aa];rfl
 have HB:Hid (Below w.heap.size w w0):=by rw[<-aa];exact YX (QQ _ _) _
 clear aa
 go_wp2_with fail
 refine bodyPost_ret (v:=.tuple #[.agg #[.int .i64 0,.slice none 0 0,.int .i64 0,.int .i64 0,.slice none 0 0,.int .i64 0,.string ⟨#[]⟩,.string ⟨#[]⟩,.int .i64 0,.int .i64 0,.bool false,.int .i64 0,.slice none 0 0],.bool false]) (by simp[results,Tryz.results96,go_sem,ae]) rfl ?_;exact⟨rfl,HB.out.trans (((ZO _ _).trans ((ZO _ _).mono (by simp))).mono (by omega))⟩
def zVv (op:ZB) (p:Xw) (vr vn:Value) (w:World) (e:Ending) (w':World):Prop :=
 ∃As cs,e=.returned (.tuple #[.agg (Xu p vr vn (.slice As p.rest.length cs)),.bool true])/\Z0 w' (Lt w'.heap.size) p.rest (.slice As p.rest.length cs)/\Below w.heap.size w w'
set_option maxRecDepth 100000 in
theorem Vg (op:ZB) (pos:List Int) (Ar An Ap:Option Addr) (cr cn cp:Nat) (w:World) (hop:op.Ok) (hr:Z0 w (Lt w.heap.size) op.row (.slice Ar op.row.length cr)) (hpos:Z0 w (Lt w.heap.size) pos (.slice Ap pos.length cp)) (hpl:pos.length<=100000)
  (hw:Yt pos op.row=true) (hlen:pos.length=op.row.length+1) (x:Int) (hx:pos[op.row.length]?=some x) :
  Calls Tryz.prog 96 #[.agg (Zu op (.slice Ar op.row.length cr) (.slice An op.nodes.length cn)),.slice Ap pos.length cp] w
   (zVv op ⟨op,op.nodes.length,x,false,0,[]⟩ (.slice Ar op.row.length cr) (.slice An op.nodes.length cn) w):=by
 obtain⟨hat,hn,hslot,hnl,hrl⟩:=hop
 have hc1:pos.length<=cp:=by obtain⟨A,cap,cs,e,h1,_⟩:=hpos;injection e with _ _ e3;omega
 obtain⟨kind,row,at_,n,nodes,slot,old,text⟩:=op
 simp only[Zu] at *
 have hte:pos.take row.length=row:=by unfold Yt at hw;simp only[decide_eq_true_eq] at hw;exact hw.2.1
 obtain⟨A1,hsl,hcut⟩:=UJ ZF Tryz.underlying25 XA Ap pos.length cp row.length row.length rfl (by omega) hc1
 have hd:decide (pos.take row.length=row)=true:=decide_eq_true hte
 have heq:∀W,Below w.heap.size w W->Calls Tryz.prog 120 #[.slice A1 row.length cp,.slice Ar row.length cr] W fun e w'=>e=.returned (.bool true)/\∃n,w'=W.drewN n:=by
  intro W hW
  have:=zS7 (pos.take row.length) row W _ _ _ _ ((hcut _ _ _ hpos).below hW (Nat.le_refl _)) (hr.below hW (Nat.le_refl _))
  rw[hd] at this
  exact this
 have HE:=hid heq
 obtain⟨A,cap,rs,e,h1,h2,hrd,hls⟩:=hpos
 injection e with q1 q2 q3
 subst q1 q3
 have hlt:row.length<pos.length:=by omega
 obtain⟨g,o,rfl,hg,hi,c0⟩:=YG hrd hls hlt
 obtain rfl:pos[row.length]=x:=by rw[List.getElem?_eq_getElem hlt] at hx;exact Option.some.inj hx
 have hg':g<w.heap.size:=hg
 have e1:decide (pos.length<=row.length)=false:=by simp;omega
 have e2:((pos.length:Int)==(row.length:Int)+2)=false:=by simp;omega
 have e3:decide (row.length+1<pos.length)=false:=by simp;omega
 have e4:decide ((row.length:Int)+1<(pos.length:Int))=false:=by simp;omega
 have hw1:IntKind.i64.wrap ((row.length:Int)+2)=(row.length:Int)+2:=IntWalk.i64_in _ (by omega)
 have hr1:(row.length:Int)<=(pos.length:Int):=by omega
 have hr2:(row.length:Int)<(pos.length:Int):=by omega
 have HX:=hid hx
 have HL:=hid hlen
 clear hte hcut hd heq hrd hls hx hlen hw hg hi q2 h1 h2 hat hn hslot hpl hr
 go_enter Tryz.func96,Tryz.ntmps96
 go_wp2_with fail
 go_quiet ((go_at_call 120;exact Calls.quiet_of (HE.out _ (YX (((ZO _ _).trans ((ZO _ _).mono (by simp)))) _))))
 rw[Wz,Wz]
 generalize hw0:w.drewN nq=w0
 have hz0:w.heap.size=w0.heap.size:=by rw[<-hw0];rfl
 have HB:Hid (Below w.heap.size w w0):=by rw[<-hw0];exact YX (Below.refl _ _) _
 have c1:w0.cell? ⟨g,o+row.length,none⟩=some (.int .i64 pos[row.length]):=by rw[<-hw0];exact c0
 rw[hz0] at hg'
 rw[hz0]
 have n1:g<w0.heap.size+1:=by omega
 have n2:g<w0.heap.size+1+1:=by omega
 clear hw0 c0 HE hz0
 go_wp2_with fail
 go_region
 go_wp2_with fail
 refine bodyPost_ret (v:=.tuple #[.agg #[.int .i64 kind,.slice Ar row.length cr,.int .i64 at_,.int .i64 n,.slice An nodes.length cn,.int .i64 slot,.string old,.string text,.int .i64 nodes.length,.int .i64 pos[row.length],.bool false,.int .i64 0,.slice none 0 0],.bool true]) (by simp[results,Tryz.results96,go_sem]) rfl ?_
 exact⟨none,0,rfl,Z8.nil_ 0 (by simp) none,HB.out.trans ((Below.drew (((ZO _ _).trans ((ZO _ _).mono (by simp))).trans ((ZO _ _).mono (by simp;omega)))).mono HB.out.size)⟩
theorem zSj (w:World) (o:Obj):(w.alloc o).drew=(w.drew).alloc o:=rfl
theorem zSv (w:World) (a b c:Obj):Below w.heap.size w (((w.alloc a).alloc b).alloc c).drew :=
 Below.drew (((ZO _ _).trans ((ZO _ _).mono (by simp))).trans ((ZO _ _).mono (by simp;omega)))
set_option maxRecDepth 100000 in
theorem Vf (op:ZB) (pos:List Int) (Ar An Ap:Option Addr) (cr cn cp:Nat) (w:World) (hop:op.Ok) (hr:Z0 w (Lt w.heap.size) op.row (.slice Ar op.row.length cr)) (hpos:Z0 w (Lt w.heap.size) pos (.slice Ap pos.length cp)) (hpl:pos.length<=100000)
  (hw:Yt pos op.row=true) (hlen:op.row.length+2<pos.length) (x y:Int) (hx:pos[op.row.length]?=some x) (hy:pos[op.row.length+1]?=some y) :
  Calls Tryz.prog 96 #[.agg (Zu op (.slice Ar op.row.length cr) (.slice An op.nodes.length cn)),.slice Ap pos.length cp] w
   (zVv op ⟨op,op.nodes.length,x,true,y,pos.drop (op.row.length+2)⟩ (.slice Ar op.row.length cr) (.slice An op.nodes.length cn) w):=by
 obtain⟨hat,hn,hslot,hnl,hrl⟩:=hop
 have hc1:pos.length<=cp:=by obtain⟨A,cap,cs,e,h1,_⟩:=hpos;injection e with _ _ e3;omega
 obtain⟨kind,row,at_,n,nodes,slot,old,text⟩:=op
 simp only[Zu] at *
 have hte:pos.take row.length=row:=by unfold Yt at hw;simp only[decide_eq_true_eq] at hw;exact hw.2.1
 obtain⟨A1,hsl,hcut⟩:=UJ ZF Tryz.underlying25 XA Ap pos.length cp row.length row.length rfl (by omega) hc1
 have hd:decide (pos.take row.length=row)=true:=decide_eq_true hte
 have heq:∀W,Below w.heap.size w W->Calls Tryz.prog 120 #[.slice A1 row.length cp,.slice Ar row.length cr] W fun e w'=>e=.returned (.bool true)/\∃n,w'=W.drewN n:=by
  intro W hW
  have:=zS7 (pos.take row.length) row W _ _ _ _ ((hcut _ _ _ hpos).below hW (Nat.le_refl _)) (hr.below hW (Nat.le_refl _))
  rw[hd] at this
  exact this
 have HE:=hid heq
 obtain⟨A2,hsl2,hcut2⟩:=Wn ZF Tryz.underlying25 XA Ap pos.length cp ((row.length:Int)+2) (row.length+2) (by omega) (by omega)
 have HC2:=hid (hcut2 _ _ _ hpos)
 have hle2:row.length+2<=pos.length:=by omega
 have hle1:row.length+1<pos.length:=by omega
 clear hcut2
 obtain⟨A,cap,rs,e,h1,h2,hrd,hls⟩:=hpos
 injection e with q1 q2 q3
 subst q1 q3
 have hlt:row.length<pos.length:=by omega
 obtain⟨g,o,rfl,hg,hi,c0⟩:=YG hrd hls hlt
 obtain rfl:pos[row.length]=x:=by rw[List.getElem?_eq_getElem hlt] at hx;exact Option.some.inj hx
 have hg':g<w.heap.size:=hg
 obtain⟨g',o',e',hgg,hi',c0'⟩:=YG hrd hls hle1
 injection e' with e'
 injection e' with e1' e2'
 subst e1' e2'
 obtain rfl:pos[row.length+1]=y:=by rw[List.getElem?_eq_getElem hle1] at hy;exact Option.some.inj hy
 have hw2:IntKind.i64.wrap ((row.length:Int)+1)=(row.length:Int)+1:=IntWalk.i64_in _ (by omega)
 have ht1:((row.length:Int)+1).toNat=row.length+1:=by omega
 have hp1:(0:Int)<=(row.length:Int)+1:=by omega
 have hp2:(row.length:Int)+1<(pos.length:Int):=by omega
 have e1:decide (pos.length<=row.length)=false:=by simp;omega
 have e2:((pos.length:Int)==(row.length:Int)+2)=false:=by simp;omega
 have e4:decide ((row.length:Int)+1<(pos.length:Int))=true:=by simp;omega
 have hw1:IntKind.i64.wrap ((row.length:Int)+2)=(row.length:Int)+2:=IntWalk.i64_in _ (by omega)
 have hr1:(row.length:Int)<=(pos.length:Int):=by omega
 have hr2:(row.length:Int)<(pos.length:Int):=by omega
 clear hte hcut hd heq hrd hls hx hy hlen hw hgg hi' hle2 hg hi q2 h1 h2 hat hn hslot hpl hr
 go_enter Tryz.func96,Tryz.ntmps96
 go_wp2_with fail
 go_quiet ((go_at_call 120;exact Calls.quiet_of (HE.out _ (YX (((ZO _ _).trans ((ZO _ _).mono (by simp)))) _))))
 rw[Wz,Wz]
 generalize hw0:w.drewN nq=w0
 have hz0:w.heap.size=w0.heap.size:=by rw[<-hw0];rfl
 have HB:Hid (Below w.heap.size w w0):=by rw[<-hw0];exact YX (Below.refl _ _) _
 have c1:w0.cell? ⟨g,o+row.length,none⟩=some (.int .i64 pos[row.length]):=by rw[<-hw0];exact c0
 have c2:w0.cell? ⟨g,o+(row.length+1),none⟩=some (.int .i64 pos[row.length+1]):=by rw[<-hw0];exact c0'
 have HC3:Hid (Z0 w0 (Lt w0.heap.size) (pos.drop (row.length+2)) (.slice A2 (pos.length-(row.length+2)) (cp-(row.length+2)))):=HC2.out.below HB.out HB.out.size
 rw[hz0] at hg'
 rw[hz0]
 have n1:g<w0.heap.size+1:=by omega
 have n2:g<w0.heap.size+1+1:=by omega
 clear hw0 c0 c0' HE hz0 HC2
 go_wp2_with fail
 go_region
 go_wp2_with fail
 rw[zSj,zSj,zSj]
 generalize hw1':w0.drew=w1
 have hz1:w0.heap.size=w1.heap.size:=by rw[<-hw1'];rfl
 have HB1:Hid (Below w.heap.size w w1):=by rw[<-hw1'];exact HB.out.drew
 have HC4:Hid (Z0 w1 (Lt w1.heap.size) (pos.drop (row.length+2)) (.slice A2 (pos.length-(row.length+2)) (cp-(row.length+2)))):=by rw[<-hw1'];exact HC3.out.keep (fun _ _=>rfl) (fun _ h=>h)
 have c3:w1.cell? ⟨g,o+(row.length+1),none⟩=some (.int .i64 pos[row.length+1]):=by rw[<-hw1'];exact c2
 rw[hz1] at hg' n1 n2 ⊢
 have n3:g<w1.heap.size+1+1+1:=by omega
 clear hw1' hz1 c1 c2 HC3 HB
 go_region
 go_wp2_with fail
 refine bodyPost_ret (v:=.tuple #[.agg #[.int .i64 kind,.slice Ar row.length cr,.int .i64 at_,.int .i64 n,.slice An nodes.length cn,.int .i64 slot,.string old,.string text,.int .i64 nodes.length,.int .i64 pos[row.length],.bool true,.int .i64 pos[row.length+1],.slice A2 (pos.length-(row.length+2)) (cp-(row.length+2))],.bool true]) (by simp[results,Tryz.results96,go_sem]) rfl ?_
 refine⟨A2,cp-(row.length+2),by simp only[Xu,List.length_drop],?_,HB1.out.trans ((zSv _ _ _ _).mono HB1.out.size)⟩
 rw[List.length_drop]
 exact HC4.out.keep (Zy.of_below (zSv _ _ _ _) (Nat.le_refl _)) (fun k hk=>by unfold Lt at *;simp;omega)
theorem zRd {pos row:List Int}:Yt pos row=true↔row.length<pos.length/\pos.take row.length=row/\pos.length≠row.length+2:=by
 unfold Yt;simp only[decide_eq_true_eq]
theorem Uc (op:ZB) (pos:List Int) (Ar An Ap:Option Addr) (cr cn cp:Nat) (w:World) (af:op.Ok) (hr:Z0 w (Lt w.heap.size) op.row (.slice Ar op.row.length cr)) (aa:Z0 w (Lt w.heap.size) pos (.slice Ap pos.length cp)) (ae:pos.length<=100000)
  (hw:Yt pos op.row=true) :
  Calls Tryz.prog 96 #[.agg (Zu op (.slice Ar op.row.length cr) (.slice An op.nodes.length cn)),.slice Ap pos.length cp] w
   (zVv op (XQ op pos) (.slice Ar op.row.length cr) (.slice An op.nodes.length cn) w):=by
 obtain⟨h1,h2,h3⟩:=zRd.1 hw;unfold XQ;split
 ·rename_i h;have hx:pos[op.row.length]?=some (pos.getD op.row.length 0):=by rw[List.getD_eq_getElem?_getD,List.getElem?_eq_getElem h1];rfl
  have hy:pos[op.row.length+1]?=some (pos.getD (op.row.length+1) 0):=by rw[List.getD_eq_getElem?_getD,List.getElem?_eq_getElem h];rfl
  exact Vf op pos Ar An Ap cr cn cp w af hr aa ae hw (by omega) _ _ hx hy
 rename_i h;have hx:pos[op.row.length]?=some (pos.getD op.row.length 0):=by rw[List.getD_eq_getElem?_getD,List.getElem?_eq_getElem h1];rfl
 exact Vg op pos Ar An Ap cr cn cp w af hr aa ae hw (by omega) _ hx
theorem zTv {M:Int} {l:List Int} (hM:0<=M) (h:∀x∈l,Bd M x) (k:Nat):Bd M (l.getD k 0):=by
 rw[List.getD_eq_getElem?_getD];cases e:l[k]? with
 |none=>exact⟨by simp;omega,by simpa using hM⟩
 |some x=>exact h x (List.mem_of_getElem? e)
theorem zUn (op:ZB) (pos:List Int) (aa:op.Ok) (hb:∀x∈pos,Bd 1152921504606846976 x) (hpl:pos.length<=100000) (hw:Yt pos op.row=true):(XQ op pos).Ok:=by
 obtain⟨h1,h2,h3⟩:=zRd.1 hw;unfold XQ;split
 ·rename_i h;exact⟨aa.at_,aa.n,aa.slot,aa.nodes,zTv (by omega) hb _,zTv (by omega) hb _,fun x hx=>hb x (List.mem_of_mem_drop hx),by simp;omega,fun _=>by simp;omega⟩
 exact⟨aa.at_,aa.n,aa.slot,aa.nodes,zTv (by omega) hb _,⟨by simp,by simp⟩,by simp,by simp,fun h=>by simp at h⟩
def WN (op:ZB) (pos:List Int) (after:Bool):List Int :=
 if Yt pos op.row=true then op.row++(WL (XQ op pos) after).1 else pos
theorem zUu (p:Xw) (after:Bool) (hp:p.Ok):(WL p after).1.length<=200000:=by
 have hb:∀l:List Int,l.length<=3->(YU p l).length<=200000:=by
  intro l hl;have:=hp.len;unfold YU;split
  ·simp;omega
  omega
 have hr:=hp.len;unfold WL WW Xl XT Xm
 repeat' split
 all_goals first|(apply hb;simp;done)|(simp;done)|(simp;omega)
def zTa (w:World) (xs:List Int) (e:Ending) (w':World):Prop:=∃v,e=.returned v/\Z0 w' (fun k=>w.heap.size<=k/\k<w'.heap.size) xs v/\Below w.heap.size w w'
theorem SX (op:ZB) (pos:List Int) (after:Bool) (Ar An Ap:Option Addr) (cr cn cp:Nat) (w:World) (ah:op.Ok) (hr:Z0 w (Lt w.heap.size) op.row (.slice Ar op.row.length cr)) (ae:Z0 w (Lt w.heap.size) pos (.slice Ap pos.length cp)) (ag:pos.length<=100000)
  (hw:Yt pos op.row=false) :
  Calls Tryz.prog 57 #[.agg (Zu op (.slice Ar op.row.length cr) (.slice An op.nodes.length cn)),.slice Ap pos.length cp,.bool after] w (zTa w pos):=by
 obtain⟨o1,ai⟩:∃o,o=Obj.cells (Zu op (.slice Ar op.row.length cr) (.slice An op.nodes.length cn)) 49:=⟨_,rfl⟩;have HC:=hid (SH op pos (.slice Ar op.row.length cr) (.slice An op.nodes.length cn) (.slice Ap pos.length cp) Ar An Ap cr cn cp (w.alloc o1) ah (hr.alloc o1) (ae.alloc o1) ag hw);have HL:Hid (∀W,Below w.heap.size w W->Calls Tryz.prog 97 #[.slice Ap pos.length cp] W (Wl W pos)):=fun W hW=>zQp pos W _ (ae.below hW hW.size) (by omega)
 rw[ai] at HC;have HB:Hid (Below w.heap.size w (w.alloc (Obj.cells (Zu op (.slice Ar op.row.length cr) (.slice An op.nodes.length cn)) 49))):=ZO _ _;clear ai ah hr ae ag hw o1;obtain⟨kind,row,at_,n,nodes,slot,old,text⟩:=op;simp only[Zu] at *;go_enter Tryz.func57,Tryz.ntmps57
 go_wp2_with fail
 with_reducible refine HC.out.mono ?_
 rintro e w1 ⟨rfl,ak⟩;have af:Hid (Below w.heap.size w w1):=HB.out.trans (ak.mono HB.out.size);clear ak
 go_wp2_with fail
 refine(HL.out _ (af.out.trans ((ZO _ _).mono af.out.size))).mono ?_;rintro e w2 ⟨v2,rfl,aa,aj⟩;have HO:=hid aa;have au:=hid aj;clear aa aj
 go_wp2_with fail
 go_ret;have h3:=af.out.trans ((ZO w1 (Obj.cells zTb 127)).mono af.out.size);exact⟨_,rfl,HO.out.ints (fun _ h1 h2=>⟨QP h3.size h1,h2⟩),h3.trans (au.out.mono h3.size)⟩
theorem Ul (op:ZB) (pos:List Int) (after:Bool) (Ar An Ap:Option Addr) (cr cn cp:Nat) (w:World) (ae:op.Ok) (hr:Z0 w (Lt w.heap.size) op.row (.slice Ar op.row.length cr)) (aa:Z0 w (Lt w.heap.size) pos (.slice Ap pos.length cp)) (aj:pos.length<=100000)
  (hb:∀x∈pos,Bd 1152921504606846976 x) (hw:Yt pos op.row=true) :
  Calls Tryz.prog 57 #[.agg (Zu op (.slice Ar op.row.length cr) (.slice An op.nodes.length cn)),.slice Ap pos.length cp,.bool after] w (zTa w (op.row++(WL (XQ op pos) after).1)):=by
 have au:=zUn op pos ae hb aj hw;have ak:(XQ op pos).op=op:=by unfold XQ;split<;>rfl
 obtain⟨o1,aA⟩:∃o,o=Obj.cells (Zu op (.slice Ar op.row.length cr) (.slice An op.nodes.length cn)) 49:=⟨_,rfl⟩;have aD:=zUu (XQ op pos) after au;have HC:=hid (Uc op pos Ar An Ap cr cn cp (w.alloc o1) ae (hr.alloc o1) (aa.alloc o1) aj hw);have HI:Hid (∀W As cs,Z0 W (Lt W.heap.size) (XQ op pos).rest (.slice As (XQ op pos).rest.length cs)->Calls Tryz.prog 98 #[.agg (Xu (XQ op pos) (.slice Ar op.row.length cr) (.slice An op.nodes.length cn) (.slice As (XQ op pos).rest.length cs)),.bool after] W (Q4 W (WL (XQ op pos) after))) :=
  fun W As cs h=>zVe (XQ op pos) after Ar An As op.row.length cr op.nodes.length cn cs W au h
 have HR:Hid (∀W,Below w.heap.size w W->Z0 W (Lt w.heap.size) op.row (.slice Ar op.row.length cr)):=fun W hW=>hr.below hW (QT _)
 rw[aA] at HC;have HB:Hid (Below w.heap.size w (w.alloc (Obj.cells (Zu op (.slice Ar op.row.length cr) (.slice An op.nodes.length cn)) 49))):=ZO _ _;have hrl:=ae.row;generalize WL (XQ op pos) after=im at *;generalize XQ op pos=p at *;clear aA ae hr aa aj hw o1 au hb;obtain⟨kind,row,at_,n,nodes,slot,old,text⟩:=op;obtain⟨aC,k,index,inside,ax,rest⟩:=p;obtain rfl:aC=_:=ak;simp only[Zu,Xu] at *;go_enter Tryz.func57,Tryz.ntmps57
 go_wp2_with fail
 with_reducible refine HC.out.mono ?_
 rintro e w1 ⟨As,cs,rfl,az,ag⟩;have av:Hid (Below w.heap.size w w1):=HB.out.trans (ag.mono HB.out.size);have HS:=hid az;have q1:w1.cell? ⟨w.heap.size,1,none⟩=some (.slice Ar row.length cr):=((bcell ag).1 w.heap.size 1 (by simp)).trans (by rw[World.cell?_alloc_new];rfl);have z1:w.heap.size<w1.heap.size:=by have:=ag.size;simp at this;omega
 clear ag az HC
 go_wp2_with fail
 refine(HI.out _ As cs (HS.out.alloc _)).mono ?_;rintro e w2 ⟨v2,rfl,ai,af⟩;have aG:=hid ai;have ah:Hid (Below w.heap.size w w2):=(av.out.trans ((ZO _ _).mono av.out.size)).trans (af.mono (by have:=av.out.size;simp;omega));have q2:w2.cell? ⟨w.heap.size,1,none⟩=some (.slice Ar row.length cr):=((bcell af).1 w.heap.size 1 (by simp;omega)).trans ((World.cell?_alloc_lt _ _ _ z1).trans q1);have z2:w.heap.size<w2.heap.size:=by have:=af.size;simp at this;omega
 obtain⟨A2,c2,rfl⟩:=ai.form;clear af ai HI HS;have HF:Hid ([row,im.1].flatten.length<=1000000):=by show _<=_;simp only[List.flatten_cons,List.flatten_nil,List.append_nil,List.length_append];omega
 have aH:=hid (zGt [row,im.1] (w2.alloc (.cells #[.slice Ar row.length cr,.slice A2 im.1.length c2] 25)) _ (VU ((HR.out _ ah.out).keep (Zy.refl _ _) (Lt.mono ah.out.size)) aG.out 25 rfl (fun _ h=>h) w2.heap.size rfl) HF.out)
 go_wp2_with fail
 with_reducible refine aH.out.mono ?_
 rintro e w3 ⟨v3,rfl,ay,aB⟩;have aF:=hid ay;have aI:=hid aB;clear ay aB
 go_wp2_with fail
 go_ret;have h4:=ah.out.trans ((ZO w2 (.cells #[.slice Ar row.length cr,.slice A2 im.1.length c2] 25)).mono ah.out.size);exact⟨_,rfl,by have h:=aF.out.ints (S:=fun k=>w.heap.size<=k/\k<w3.heap.size) (fun _ h1 h2=>⟨QP h4.size h1,h2⟩);simpa using h,h4.trans (aI.out.mono h4.size)⟩
theorem VF (op:ZB) (pos:List Int) (after:Bool) (Ar An Ap:Option Addr) (cr cn cp:Nat) (w:World) (af:op.Ok) (hr:Z0 w (Lt w.heap.size) op.row (.slice Ar op.row.length cr)) (aa:Z0 w (Lt w.heap.size) pos (.slice Ap pos.length cp)) (ae:pos.length<=100000)
  (hb:∀x∈pos,Bd 1152921504606846976 x) :
  Calls Tryz.prog 57 #[.agg (Zu op (.slice Ar op.row.length cr) (.slice An op.nodes.length cn)),.slice Ap pos.length cp,.bool after] w (zTa w (WN op pos after)):=by
 unfold WN;split
 ·rename_i h;exact Ul op pos after Ar An Ap cr cn cp w af hr aa ae hb h
 rename_i h;exact SX op pos after Ar An Ap cr cn cp w af hr aa ae (by simpa using h)
theorem zPg (w:World) (A:Option Addr) (n c:Nat):Calls Tryz.prog 52 #[.slice A n c] w fun e w'=>e=.returned (.agg #[.int .i64 1,.string ⟨#[]⟩,.int .i64 0,.slice A n c])/\Below w.heap.size w w':=by
 go_enter Tryz.func52,Tryz.ntmps52
 go_wp2
 refine bodyPost_ret (v:=.agg #[.int .i64 1,.string ⟨#[]⟩,.int .i64 0,.slice A n c]) (by simp[results,Tryz.results52,go_sem]) rfl ⟨rfl,ZO _ _⟩
theorem Rq {w:World} {S:Nat->Prop} {ops:List ZB} {A:Option Addr} {cs:List Value} (h3:Zl w S A cs) (h4:ZK Zb w S ops cs) {k:Nat} (hk:k<ops.length) :
  ∃
   g o Ar An cr cn,A=some ⟨g,o,none⟩/\S g /\
   w.cell? ⟨g,o+k*8,none⟩=some (.int .i64 ops[k].kind)/\w.cell? ⟨g,o+k*8+1,none⟩=some (.slice Ar ops[k].row.length cr)/\w.cell? ⟨g,o+k*8+2,none⟩=some (.int .i64 ops[k].at_) /\
   w.cell? ⟨g,o+k*8+3,none⟩=some (.int .i64 ops[k].n)/\w.cell? ⟨g,o+k*8+4,none⟩=some (.slice An ops[k].nodes.length cn)/\w.cell? ⟨g,o+k*8+5,none⟩=some (.int .i64 ops[k].slot) /\
   w.cell? ⟨g,o+k*8+6,none⟩=some (.string ops[k].old)/\w.cell? ⟨g,o+k*8+7,none⟩=some (.string ops[k].text) /\
   Z0 w S ops[k].row (.slice Ar ops[k].row.length cr)/\zOc w S ops[k].nodes (.slice An ops[k].nodes.length cn)/\Z4 ops[k].at_/\Z4 ops[k].n/\Z4 ops[k].slot:=by
 obtain⟨g,o,c,e,hb,⟨vr,vn,rfl,h1,h2,ae,aa,h5,h6,h7,h8⟩,hc⟩:=Sl h3 h4 hk;obtain⟨Ar,cr,rfl⟩:=h7.form;obtain⟨An,cn,rfl⟩:=h8.form;exact⟨g,o,Ar,An,cr,cn,e,hb,by simpa[Zb] using hc 0 _ rfl,by simpa[Zb] using hc 1 _ rfl,by simpa[Zb] using hc 2 _ rfl,by simpa[Zb] using hc 3 _ rfl,by simpa[Zb] using hc 4 _ rfl,
  by simpa[Zb] using hc 5 _ rfl,by simpa[Zb] using hc 6 _ rfl,by simpa[Zb] using hc 7 _ rfl,h7,h8,h2,ae,aa⟩
theorem VG (op:ZB) (pos:List Int) (after:Bool) (aa:op.row.length<=60):(WN op pos after).length<=pos.length+64:=by
 unfold WN;split;rotate_left
 ·omega
 rename_i hw;obtain⟨h1,h2,h3⟩:=zRd.1 hw;have hr:(XQ op pos).rest.length<=pos.length:=by unfold XQ;split<;>simp
 have hb:∀l:List Int,l.length<=3->(YU (XQ op pos) l).length<=pos.length+4:=by
  intro l hl;unfold YU;split
  ·simp;omega
  omega
 rw[List.length_append];have:(WL (XQ op pos) after).1.length<=pos.length+4:=by
  unfold WL WW Xl XT Xm
  repeat' split
  all_goals first|(apply hb;simp;done)|(simp;done)|(simp;omega)
 omega
theorem zV3 {w w':World} (h:Below w.drew.heap.size w.drew w'):Below w.heap.size w w':=⟨h.os,h.tape,h.output,h.size,h.block⟩
theorem zV1 (w:World) (n:Nat):Below w.heap.size w (w.drewN n):=YX (QQ _ _) _
theorem zWt (op:ZB) (pos:List Int) (after:Bool) (Ar An Ap:Option Addr) (cr cn cp:Nat) (w:World) (ai:op.Ok) (hr:Z0 w (Lt w.heap.size) op.row (.slice Ar op.row.length cr)) (aa:Z0 w (Lt w.heap.size) pos (.slice Ap pos.length cp)) (hpl:pos.length<=100000)
  (hw:Yt pos op.row=false) :
  Calls Tryz.prog 78 #[.agg (Zu op (.slice Ar op.row.length cr) (.slice An op.nodes.length cn)),.slice Ap pos.length cp,.bool after] w (WZ w pos):=by
 have hrl:=ai.row;have HW:Hid (∀W,Below w.heap.size w W->Calls Tryz.prog 109 #[.slice Ap pos.length cp,.slice Ar op.row.length cr] W fun e w'=>e=.returned (.bool false)/\∃n,w'=W.drewN n):=by
  intro W hW;have:=zV6 pos op.row W _ _ _ _ (aa.below hW (QT _)) (hr.below hW (QT _)) (by omega);rw[hw] at this;exact this
 have HP:Hid (∀W,Below w.heap.size w W->Z0 W (Lt w.heap.size) pos (.slice Ap pos.length cp)):=fun W hW=>aa.below hW (QT _)
 obtain⟨kind,row,at_,n,nodes,slot,old,text⟩:=op;simp only[Zu] at *;clear ai hr aa hw;go_enter Tryz.func78,Tryz.ntmps78
 go_wp2_with fail
 refine(HW.out _ (ZO _ _)).mono ?_;rintro e w1 ⟨rfl,nq,rfl⟩;rw[Wz];generalize ah:w.drewN nq=w0;have HB:Hid (Below w.heap.size w w0):=by rw[<-ah];exact zV1 _ _
 clear ah;have ag:Hid (∀o,Below w.heap.size w (w0.alloc o)):=fun o=>HB.out.trans ((ZO _ _).mono HB.out.size)
 have af:Hid (∀o o',Below w.heap.size w ((w0.alloc o).alloc o')):=fun o o'=>(ag.out o).trans ((ZO _ _).mono (ag.out o).size)
 go_wp2_with (at_builtin;refine YN rfl (.tmp 17) (.tmp 18) rfl w.heap.size _ [] pos rfl (Ru _ _ [] (by simp) 0 _ rfl (by simp) (ag.out _).size _ rfl (by simp)) _ _ _ _ rfl (HP.out _ (af.out _ _)) (by simp;omega) (af.out _ _).size ?_;intro v1 w2 ae aj _)
 go_ret;exact⟨_,rfl,by have h:=ae.ints (S:=Lt w2.heap.size) (fun _ _ h=>h);simpa using h,(af.out _ _).trans aj⟩
set_option maxRecDepth 100000 in
theorem zWc (op:ZB) (pos:List Int) (after:Bool) (Ar An Ap:Option Addr) (cr cn cp:Nat) (w:World) (hop:op.Ok) (hr:Z0 w (Lt w.heap.size) op.row (.slice Ar op.row.length cr)) (hpos:Z0 w (Lt w.heap.size) pos (.slice Ap pos.length cp)) (hpl:pos.length<=100000)
  (hb:∀x∈pos,Bd 1152921504606846976 x) (hw:Yt pos op.row=true) (hlen:pos.length=op.row.length+1) (x:Int) (hx:pos[op.row.length]?=some x) :
  Calls Tryz.prog 78 #[.agg (Zu op (.slice Ar op.row.length cr) (.slice An op.nodes.length cn)),.slice Ap pos.length cp,.bool after] w (WZ w (op.row++Y4 op x after)):=by
 have hrl:=hop.row
 have HW:Hid (∀W,Below w.heap.size w W->Calls Tryz.prog 109 #[.slice Ap pos.length cp,.slice Ar op.row.length cr] W fun e w'=>e=.returned (.bool true)/\∃n,w'=W.drewN n):=by
  intro W hW
  have:=zV6 pos op.row W _ _ _ _ (hpos.below hW (Nat.le_refl _)) (hr.below hW (Nat.le_refl _)) (by omega)
  rw[hw] at this
  exact this
 have HO:Hid (∀W,Calls Tryz.prog 110 #[.agg (Zu op (.slice Ar op.row.length cr) (.slice An op.nodes.length cn)),.int .i64 x,.bool after] W (WZ W (Y4 op x after))) :=
  fun W=>zWm op x after Ar An op.row.length cr cn W hop (hb x (List.mem_of_getElem? hx))
 have HR:Hid (∀W,Below w.heap.size w W->Z0 W (Lt w.heap.size) op.row (.slice Ar op.row.length cr)):=fun W hW=>hr.below hW (Nat.le_refl _)
 have hol:(Y4 op x after).length<=3:=by unfold Y4;(repeat' split)<;>simp
 obtain⟨A,cap,rs,e,h1,h2,hrd,hls⟩:=hpos
 injection e with q1 q2 q3
 subst q1 q3
 have hlt:op.row.length<pos.length:=by omega
 obtain⟨g,o,rfl,hg,hi,c0⟩:=YG hrd hls hlt
 obtain rfl:pos[op.row.length]=x:=by rw[List.getElem?_eq_getElem hlt] at hx;exact Option.some.inj hx
 have hg':g<w.heap.size:=hg
 generalize hofs:Y4 op pos[op.row.length] after=ofs at *
 generalize hxx:pos[op.row.length]=x at *
 have hxb:=hb x (by rw[<-hxx];exact List.getElem_mem _)
 obtain⟨kind,row,at_,n,nodes,slot,old,text⟩:=op
 simp only[Zu] at *
 have e1:((pos.length:Int)==(row.length:Int)+1)=true:=by simp;omega
 have hr2:(row.length:Int)<(pos.length:Int):=by omega
 clear hop hr hw hrd hls q2 hg hi hb hofs hxx hlen hx hxb h1 h2
 go_enter Tryz.func78,Tryz.ntmps78
 go_wp2_with fail
 refine(HW.out _ (ZO _ _)).mono ?_
 rintro e w1 ⟨rfl,nq,rfl⟩
 rw[Wz]
 generalize hw0:w.drewN nq=w0
 have hz0:w.heap.size=w0.heap.size:=by rw[<-hw0];rfl
 have HB:Hid (Below w.heap.size w w0):=by rw[<-hw0];exact zV1 _ _
 have d0:w0.cell? ⟨g,o+row.length,none⟩=some (.int .i64 x):=by rw[<-hw0];exact c0
 rw[hz0] at hg'
 rw[hz0]
 clear hw0 hz0 c0
 obtain⟨o1,ho1⟩:∃o1,o1=Obj.cells #[.int .i64 kind,.slice Ar row.length cr,.int .i64 at_,.int .i64 n,.slice An nodes.length cn,.int .i64 slot,.string old,.string text] 49:=⟨_,rfl⟩
 have HBa:Hid (Below w.heap.size w (w0.alloc o1)):=HB.out.trans ((ZO _ _).mono HB.out.size)
 have HBb:Hid (Below w.heap.size w ((w0.alloc o1).alloc (.cells #[] 3))):=HBa.out.trans ((ZO _ _).mono HBa.out.size)
 have HBc:Hid (Below (w0.heap.size+1) (w0.alloc o1) ((w0.alloc o1).alloc (.cells #[] 3))):=(ZO _ _).mono (by simp)
 rw[ho1] at HBa HBb HBc
 clear ho1 o1
 go_wp2_with (at_builtin;refine YN rfl (.tmp 20) (.tmp 22) rfl (w0.heap.size+1) _ [] row rfl (Ru _ _ [] (by simp) 0 _ rfl (by simp) (by simp) _ rfl (by simp)) _ _ _ _ rfl (HR.out _ HBb.out) (by simp;omega) (by simp) ?_;intro v1 w2 hown1 hb1 _)
 have ho1:Zi w2 (w0.heap.size+1) row v1:=by simpa using hown1
 have HO1:=hid ho1
 have hbx:=HBc.out.trans hb1
 have HX:=hid hbx
 have hcx:=(bcell hbx).1
 have m0:w2.cell? ⟨w0.heap.size,0,none⟩=some (.int .i64 kind):=(hcx w0.heap.size 0 (by omega)).trans (by rw[World.cell?_alloc_new];rfl)
 have m1:w2.cell? ⟨w0.heap.size,1,none⟩=some (.slice Ar row.length cr):=(hcx w0.heap.size 1 (by omega)).trans (by rw[World.cell?_alloc_new];rfl)
 have m2:w2.cell? ⟨w0.heap.size,2,none⟩=some (.int .i64 at_):=(hcx w0.heap.size 2 (by omega)).trans (by rw[World.cell?_alloc_new];rfl)
 have m3:w2.cell? ⟨w0.heap.size,3,none⟩=some (.int .i64 n):=(hcx w0.heap.size 3 (by omega)).trans (by rw[World.cell?_alloc_new];rfl)
 have m4:w2.cell? ⟨w0.heap.size,4,none⟩=some (.slice An nodes.length cn):=(hcx w0.heap.size 4 (by omega)).trans (by rw[World.cell?_alloc_new];rfl)
 have m5:w2.cell? ⟨w0.heap.size,5,none⟩=some (.int .i64 slot):=(hcx w0.heap.size 5 (by omega)).trans (by rw[World.cell?_alloc_new];rfl)
 have m6:w2.cell? ⟨w0.heap.size,6,none⟩=some (.string old):=(hcx w0.heap.size 6 (by omega)).trans (by rw[World.cell?_alloc_new];rfl)
 have m7:w2.cell? ⟨w0.heap.size,7,none⟩=some (.string text):=(hcx w0.heap.size 7 (by omega)).trans (by rw[World.cell?_alloc_new];rfl)
 have m8:w2.cell? ⟨g,o+row.length,none⟩=some (.int .i64 x):=(hcx g (o+row.length) (by omega)).trans ((World.cell?_alloc_lt _ _ _ hg').trans d0)
 have HBw:Hid (Below w.heap.size w w2):=HBb.out.trans (hb1.mono (by have:=HB.out.size;omega))
 clear hown1 ho1 hbx hcx hb1 d0 HBa HBb HBc
 have z2:w0.heap.size<w2.heap.size:=by have:=HX.out.size;simp at this;omega
 have KEEP:Hid (∀w3,Below w2.heap.size w2 w3->(∀j u,w2.cell? ⟨w0.heap.size,j,none⟩=some u->w3.cell? ⟨w0.heap.size,j,none⟩=some u)/\w3.cell? ⟨g,o+row.length,none⟩=some (.int .i64 x)) :=
  fun w3 h=>⟨fun j u hu=>((bcell h).1 _ _ z2).trans hu,((bcell h).1 _ _ (by omega)).trans m8⟩
 have KEEP2:Hid (∀w3 w4,Below w2.heap.size w2 w3->Below (w0.heap.size+1) w3 w4->(∀j u,w2.cell? ⟨w0.heap.size,j,none⟩=some u->w4.cell? ⟨w0.heap.size,j,none⟩=some u)/\w4.cell? ⟨g,o+row.length,none⟩=some (.int .i64 x)) :=
  fun w3 w4 h h'=>⟨fun j u hu=>((bcell h').1 _ _ (by omega)).trans ((KEEP.out w3 h).1 j u hu),((bcell h').1 _ _ (by omega)).trans (KEEP.out w3 h).2⟩
 obtain⟨Av,cv,hv1⟩:=(HO1.out.ints (S:=fun _=>True) (fun _ _ _=>trivial)).form
 subst hv1
 go_region_held3 (fun w'=>w'.cell? ⟨w0.heap.size,0,none⟩=some (.int .i64 kind)/\w'.cell? ⟨w0.heap.size,1,none⟩=some (.slice Ar row.length cr)/\w'.cell? ⟨w0.heap.size,2,none⟩=some (.int .i64 at_)/\w'.cell? ⟨w0.heap.size,3,none⟩=some (.int .i64 n)/\w'.cell? ⟨w0.heap.size,4,none⟩=some (.slice An nodes.length cn)/\w'.cell? ⟨w0.heap.size,5,none⟩=some (.int .i64 slot)/\w'.cell? ⟨w0.heap.size,6,none⟩=some (.string old)/\w'.cell? ⟨w0.heap.size,7,none⟩=some (.string text)/\w'.cell? ⟨g,o+row.length,none⟩=some (.int .i64 x)) (go_keep) (first|(go_at_call 110;refine(HO.out _).mono ?_;rintro e w3 ⟨v3,rfl,hi3,hb3⟩;obtain⟨A3,c3,rfl⟩:=hi3.form;have hb3':=zV3 hb3;have HI3:=hid hi3;have HB3:=hid hb3';have HO3:=hid (HO1.out.below hb3');have k0:=(KEEP.out w3 hb3').1 0 _ m0;have k1:=(KEEP.out w3 hb3').1 1 _ m1;have k2:=(KEEP.out w3 hb3').1 2 _ m2;have k3:=(KEEP.out w3 hb3').1 3 _ m3;have k4:=(KEEP.out w3 hb3').1 4 _ m4;have k5:=(KEEP.out w3 hb3').1 5 _ m5;have k6:=(KEEP.out w3 hb3').1 6 _ m6;have k7:=(KEEP.out w3 hb3').1 7 _ m7;have k8:=(KEEP.out w3 hb3').2;clear hi3 hb3 hb3')|(refine zV0 (by rfl) (.tmp 29) (.tmp 36) (by rfl) (w0.heap.size+1) _ row ofs (by rfl) HO3.out _ _ _ _ (by rfl) HI3.out (by omega) (by have:=HB3.out.size;omega) ?_;intro v4 w4 hown4 hb4 _;have k0:=(KEEP2.out w3 w4 HB3.out hb4).1 0 _ m0;have k1:=(KEEP2.out w3 w4 HB3.out hb4).1 1 _ m1;have k2:=(KEEP2.out w3 w4 HB3.out hb4).1 2 _ m2;have k3:=(KEEP2.out w3 w4 HB3.out hb4).1 3 _ m3;have k4:=(KEEP2.out w3 w4 HB3.out hb4).1 4 _ m4;have k5:=(KEEP2.out w3 w4 HB3.out hb4).1 5 _ m5;have k6:=(KEEP2.out w3 w4 HB3.out hb4).1 6 _ m6;have k7:=(KEEP2.out w3 w4 HB3.out hb4).1 7 _ m7;have k8:=(KEEP2.out w3 w4 HB3.out hb4).2))
 have HO4:=hid hown4
 have HB4:Hid (Below w.heap.size w w4):=(HBw.out.trans (HB3.out.mono HBw.out.size)).trans (hb4.mono (by have:=HB.out.size;omega))
 clear hown4 hb4
 go_wp2_with fail
 go_ret
 exact⟨_,rfl,HO4.out.ints (fun _ _ h=>h),HB4.out⟩
theorem zV4 {w w':World} {B:Nat} (h:Below B w.drew w'):Below B w w':=⟨h.os,h.tape,h.output,h.size,h.block⟩
set_option maxRecDepth 100000 in
theorem zWu (row:List Int) (n:Int) (nodes:List Z9) (old text:ByteArray) (i s r0:Int) (rest:List Int) (Ar An Ap:Option Addr) (lr cr cn cp:Nat) (w:World) (hop:(⟨4,row,i,n,nodes,s,old,text⟩:ZB).Ok)
  (hrb:Bd 1152921504606846976 r0) (hrl:rest.length+1<=100000) (hr:Z0 w (Lt w.heap.size) (r0::rest) (.slice Ap (rest.length+1) cp)) :
  Calls Tryz.prog 111 #[.agg #[.int .i64 4,.slice Ar lr cr,.int .i64 i,.int .i64 n,.slice An nodes.length cn,.int .i64 s,.string old,.string text],.int .i64 i,.int .i64 s,.slice Ap (rest.length+1) cp] w (WZ w ((i+r0)::rest)):=by
 obtain⟨hat1,hat2⟩:Bd 1099511627776 i:=hop.at_
 obtain⟨hr1,hr2⟩:=hrb
 obtain⟨A1,hsl,hcut⟩:=Wn ZF Tryz.underlying25 XA Ap (rest.length+1) cp 1 1 rfl (by omega)
 have hcut':=hcut _ _ _ hr
 simp only[List.drop_succ_cons,List.drop_zero,Nat.add_sub_cancel] at hcut' hsl
 have HCU:=hid hcut'
 obtain⟨A,cap,rs,e,hc1,hc2,hrd,hls⟩:=hr
 injection e with e1 e2 e3
 subst e1 e3
 obtain⟨g,o,rfl,hg,hi,c0⟩:=YG hrd hls (k:=0) (by simp)
 simp only[List.getElem_cons_zero,Nat.add_zero] at c0
 have hg':g<w.heap.size:=hg
 have HIN:=hid (zQ2 (x:=i+r0) (by omega) (by omega))
 have i1:(0:Int)<((rest.length+1:Nat):Int):=by omega
 clear hrd hls hc1 hc2 e2 hcut hcut' hop hi
 go_enter Tryz.func111,Tryz.ntmps111
 go_wp2_with fail
 obtain⟨W,hW⟩:∃W,W=(w.alloc (.cells #[.int .i64 4,.slice Ar lr cr,.int .i64 i,.int .i64 n,.slice An nodes.length cn,.int .i64 s,.string old,.string text] 49)).alloc (.cells #[.int .i64 i] 3):=⟨_,rfl⟩
 have hbW:Below w.heap.size w W:=by rw[hW];exact(ZO _ _).trans ((ZO _ _).mono (by simp))
 have hsW:W.heap.size=w.heap.size+1+1:=by rw[hW];simp
 have cW:W.cell? ⟨w.heap.size,2,none⟩=some (.int .i64 i):=by rw[hW];rw[World.cell?_alloc_lt _ _ _ (by simp),World.cell?_alloc_new];rfl
 have dW:W.cell? ⟨g,o,none⟩=some (.int .i64 r0):=((bcell hbW).1 _ _ hg').trans c0
 have HCW:=hid (HCU.out.below hbW (Nat.le_refl _))
 rw[<-hW]
 have hw1:IntKind.i64.wrap (i+r0)=i+r0:=IntWalk.i64_in _ (by omega)
 have hsz:w.heap.size<W.heap.size:=by omega
 have hgz:g<W.heap.size:=by omega
 have HB:=hid hbW
 have HL:Hid (∀W',W'=W.alloc (.cells #[.int .i64 (i+r0)] 3)->Zi W'.drew (w.heap.size+1) [i+r0] (.slice (some ⟨W.heap.size,0,none⟩) 1 1)/\Z0 W'.drew (Lt w.heap.size) rest (.slice A1 rest.length (cp-1))/\Below w.heap.size w W'.drew):=by
  rintro W' rfl
  have h1:Below w.heap.size w (W.alloc (.cells #[.int .i64 (i+r0)] 3)):=hbW.trans ((ZO _ _).mono hbW.size)
  exact⟨Ru W _ [i+r0] (by simpa using HIN.out) 1 _ rfl rfl (by omega) _ rfl (by simp[maxLen]),HCU.out.below h1.drew (Nat.le_refl _),h1.drew⟩
 have KEEP:Hid (∀w4,Below (w.heap.size+1) (W.alloc (.cells #[.int .i64 (i+r0)] 3)).drew w4->w4.cell? ⟨w.heap.size,2,none⟩=some (.int .i64 i)/\w4.cell? ⟨g,o,none⟩=some (.int .i64 r0)):=by
  intro w4 h
  have h2:=(bcell (zV4 h)).1
  exact⟨(h2 _ _ (by omega)).trans ((World.cell?_alloc_lt _ _ _ hsz).trans cW),(h2 _ _ (by omega)).trans ((World.cell?_alloc_lt _ _ _ hgz).trans dW)⟩
 clear hW c0 hsW hbW
 go_region_held3 (fun w'=>w'.cell? ⟨w.heap.size,2,none⟩=some (.int .i64 i)/\w'.cell? ⟨g,o,none⟩=some (.int .i64 r0)) (go_keep) (first|(refine zV0 (by rfl) (.tmp 141) (.tmp 143) (by rfl) (w.heap.size+1) _ [i+r0] rest (by rfl) (HL.out _ rfl).1 _ _ _ _ (by rfl) (HL.out _ rfl).2.1 (by simp;omega) (by simp;omega) ?_;intro v4 w4 hown4 hb4 _;obtain⟨k1,k2⟩:=KEEP.out w4 hb4))
 have HO4:=hid hown4
 have HB4:Hid (Below w.heap.size w w4):=(HL.out _ rfl).2.2.trans (hb4.mono (by omega))
 clear hown4 hb4
 go_wp2_with fail
 go_ret
 exact⟨_,rfl,by have h:=HO4.out.ints (S:=Lt w4.heap.size) (fun _ _ h=>h);simpa using h,HB4.out⟩
def Y3 (op:ZB) (i s:Int) (r:List Int):List Int :=
 if i<op.at_ then [i]++[s]++r
 else if op.kind=1 then [i+op.nodes.length]++[s]++r
 else if op.kind=2 then (if i<op.at_+op.nodes.length then [op.at_] else [i-op.nodes.length]++[s]++r)
 else if op.kind=3 then (if i<op.at_+op.n then [op.at_,op.slot,i-op.at_]++[s]++r else [i-op.n+1]++[s]++r)
 else if op.kind=4/\i=op.at_ then (if s<op.slot then [op.at_] else if op.slot<s then [op.at_+op.n] else (op.at_+r.headD 0)::r.tail)
 else if op.kind=4 then [i-1+op.n]++[s]++r
 else [i]++[s]++r
set_option maxRecDepth 100000 in
theorem zWn (op:ZB) (i s:Int) (r:List Int) (Ar An Ap:Option Addr) (lr cr cn cp:Nat) (w:World) (hop:op.Ok) (hi:Bd 1152921504606846976 i) (hs:Bd 1152921504606846976 s) (hrb:∀x∈r,Bd 1152921504606846976 x) (hrl:r.length<=100000) (hr0:0<r.length)
  (hr:Z0 w (Lt w.heap.size) r (.slice Ap r.length cp)) :
  Calls Tryz.prog 111 #[.agg (Zu op (.slice Ar lr cr) (.slice An op.nodes.length cn)),.int .i64 i,.int .i64 s,.slice Ap r.length cp] w (WZ w (Y3 op i s r)):=by
 have HR:Hid (∀W,Below w.heap.size w W->Z0 W (Lt w.heap.size) r (.slice Ap r.length cp)):=fun W hW=>hr.below hW (Nat.le_refl _)
 have HRB:=hid hrb
 have HOP:=hid hop
 have HR0:=hid hr
 have HS:Hid (Z4 s):=zVm hs
 obtain⟨hat,hn,hslot,hnl,hrl'⟩:=hop
 unfold Bd at hat hn hslot hi hs
 obtain⟨hat1,hat2⟩:=hat
 obtain⟨hn1,hn2⟩:=hn
 obtain⟨hs1,hs2⟩:=hslot
 obtain⟨hi1,hi2⟩:=hi
 obtain⟨hss1,hss2⟩:=hs
 obtain⟨kind,row,at_,n,nodes,slot,old,text⟩:=op
 simp only[Zu] at *
 clear hrb hr hrl'
 rcases Int.lt_trichotomy i at_ with hl0|he0|hg0
 ·have hq0:(i==at_)=false:=by simp;omega
  have HF:Hid (Y3 ⟨kind,row,at_,n,nodes,slot,old,text⟩ i s r=[i]++[s]++r):=by
   show _=_
   unfold Y3
   repeat' split
   all_goals first|rfl|(exfalso;simp_all;done)|(exfalso;simp_all;omega)|(simp;done)|(simp;omega)
  have H0:=hid (Wm w (w.alloc (Obj.cells #[.int .i64 kind,.slice Ar lr cr,.int .i64 at_,.int .i64 n,.slice An nodes.length cn,.int .i64 slot,.string old,.string text] 49)) (ZO _ _) [i] (m1 _) (by simp) s HS.out 1 (w.heap.size+1) (w.heap.size+1+1) rfl (by simp) (by simp) #[.int .i64 (i)] rfl)
  go_enter Tryz.func111,Tryz.ntmps111
  go_wp2_with (first|(at_builtin;refine YN rfl (.tmp 155) (.tmp 157) rfl w.heap.size _ [i] [s] rfl H0.out.1 _ _ _ _ rfl H0.out.2.1 (by simp) H0.out.2.2.size ?_;intro v1 w1 hown1 hb1 _;have hb1':=H0.out.2.2.trans hb1)|(at_builtin;refine YN rfl (.tmp 158) (.tmp 159) rfl w.heap.size v1 ([i]++[s]) r rfl hown1 _ _ _ _ rfl (HR.out _ hb1') (by simp;omega) hb1'.size ?_;intro v2 w2 hown2 hb2 _))
  go_ret
  rw[HF.out]
  exact⟨_,rfl,hown2.ints (fun _ _ h=>h),hb1'.trans hb2⟩
 ·have hq0:(i==at_)=true:=by simp;omega
  have hu0:i<=at_:=by omega
  have hv0:at_<=i:=by omega
  clear he0
  by_cases hc1:kind=1
  ·subst hc1
   have HF:Hid (Y3 ⟨1,row,at_,n,nodes,slot,old,text⟩ i s r=[i+(nodes.length:Int)]++[s]++r):=by
    show _=_
    unfold Y3
    repeat' split
    all_goals first|rfl|(exfalso;simp_all;done)|(exfalso;simp_all;omega)|(simp;done)|(simp;omega)
   have H0:=hid (Wm w ((w.alloc (Obj.cells #[.int .i64 1,.slice Ar lr cr,.int .i64 at_,.int .i64 n,.slice An nodes.length cn,.int .i64 slot,.string old,.string text] 49)).alloc (.cells #[.int .i64 i] 3)) ((ZO _ _).trans ((ZO _ _).mono (by simp))) [i+(nodes.length:Int)] (m1 _) (by simp) s HS.out 1 (w.heap.size+1+1) (w.heap.size+1+1+1) rfl (by simp) (by simp) #[.int .i64 (i+(nodes.length:Int))] rfl)
   go_enter Tryz.func111,Tryz.ntmps111
   go_wp2_with (first|(at_builtin;refine YN rfl (.tmp 155) (.tmp 157) rfl w.heap.size _ [i+(nodes.length:Int)] [s] rfl H0.out.1 _ _ _ _ rfl H0.out.2.1 (by simp) H0.out.2.2.size ?_;intro v1 w1 hown1 hb1 _;have hb1':=H0.out.2.2.trans hb1)|(at_builtin;refine YN rfl (.tmp 158) (.tmp 159) rfl w.heap.size v1 ([i+(nodes.length:Int)]++[s]) r rfl hown1 _ _ _ _ rfl (HR.out _ hb1') (by simp;omega) hb1'.size ?_;intro v2 w2 hown2 hb2 _))
   go_ret
   rw[HF.out]
   exact⟨_,rfl,hown2.ints (fun _ _ h=>h),hb1'.trans hb2⟩
  have hc1':(kind==1)=false:=by simpa using hc1
  clear hc1
  by_cases hc2:kind=2
  ·subst hc2
   by_cases hd3:i<at_+(nodes.length:Int)
   ·skip
    have HF:Hid (Y3 ⟨2,row,at_,n,nodes,slot,old,text⟩ i s r=[at_]):=by
     show _=_
     unfold Y3
     repeat' split
     all_goals first|rfl|(exfalso;simp_all;done)|(exfalso;simp_all;omega)|(simp;done)|(simp;omega)
    go_enter Tryz.func111,Tryz.ntmps111
    go_wp2_with fail
    go_ret
    rw[HF.out]
    exact⟨_,rfl,Yg ((ZO _ _).trans ((ZO _ _).mono (by simp))) [at_] (m1 _) (by simp) _ _ rfl (by simp) _ rfl⟩
   have hd3':=Int.not_lt.1 hd3
   clear hd3
   have HF:Hid (Y3 ⟨2,row,at_,n,nodes,slot,old,text⟩ i s r=[i-(nodes.length:Int)]++[s]++r):=by
    show _=_
    unfold Y3
    repeat' split
    all_goals first|rfl|(exfalso;simp_all;done)|(exfalso;simp_all;omega)|(simp;done)|(simp;omega)
   have H0:=hid (Wm w ((w.alloc (Obj.cells #[.int .i64 2,.slice Ar lr cr,.int .i64 at_,.int .i64 n,.slice An nodes.length cn,.int .i64 slot,.string old,.string text] 49)).alloc (.cells #[.int .i64 i] 3)) ((ZO _ _).trans ((ZO _ _).mono (by simp))) [i-(nodes.length:Int)] (m1 _) (by simp) s HS.out 1 (w.heap.size+1+1) (w.heap.size+1+1+1) rfl (by simp) (by simp) #[.int .i64 (i-(nodes.length:Int))] rfl)
   go_enter Tryz.func111,Tryz.ntmps111
   go_wp2_with (first|(at_builtin;refine YN rfl (.tmp 155) (.tmp 157) rfl w.heap.size _ [i-(nodes.length:Int)] [s] rfl H0.out.1 _ _ _ _ rfl H0.out.2.1 (by simp) H0.out.2.2.size ?_;intro v1 w1 hown1 hb1 _;have hb1':=H0.out.2.2.trans hb1)|(at_builtin;refine YN rfl (.tmp 158) (.tmp 159) rfl w.heap.size v1 ([i-(nodes.length:Int)]++[s]) r rfl hown1 _ _ _ _ rfl (HR.out _ hb1') (by simp;omega) hb1'.size ?_;intro v2 w2 hown2 hb2 _))
   go_ret
   rw[HF.out]
   exact⟨_,rfl,hown2.ints (fun _ _ h=>h),hb1'.trans hb2⟩
  have hc2':(kind==2)=false:=by simpa using hc2
  clear hc2
  by_cases hc3:kind=3
  ·subst hc3
   by_cases hd4:i<at_+n
   ·skip
    have HF:Hid (Y3 ⟨3,row,at_,n,nodes,slot,old,text⟩ i s r=[at_,slot,i-at_]++[s]++r):=by
     show _=_
     unfold Y3
     repeat' split
     all_goals first|rfl|(exfalso;simp_all;done)|(exfalso;simp_all;omega)|(simp;done)|(simp;omega)
    have H0:=hid (Wm w ((w.alloc (Obj.cells #[.int .i64 3,.slice Ar lr cr,.int .i64 at_,.int .i64 n,.slice An nodes.length cn,.int .i64 slot,.string old,.string text] 49)).alloc (.cells #[.int .i64 i] 3)) ((ZO _ _).trans ((ZO _ _).mono (by simp))) [at_,slot,i-at_] (m3 _ _ _) (by simp) s HS.out 3 (w.heap.size+1+1) (w.heap.size+1+1+1) rfl (by simp) (by simp) #[.int .i64 (at_),.int .i64 (slot),.int .i64 (i-at_)] rfl)
    go_enter Tryz.func111,Tryz.ntmps111
    go_wp2_with (first|(at_builtin;refine YN rfl (.tmp 155) (.tmp 157) rfl w.heap.size _ [at_,slot,i-at_] [s] rfl H0.out.1 _ _ _ _ rfl H0.out.2.1 (by simp) H0.out.2.2.size ?_;intro v1 w1 hown1 hb1 _;have hb1':=H0.out.2.2.trans hb1)|(at_builtin;refine YN rfl (.tmp 158) (.tmp 159) rfl w.heap.size v1 ([at_,slot,i-at_]++[s]) r rfl hown1 _ _ _ _ rfl (HR.out _ hb1') (by simp;omega) hb1'.size ?_;intro v2 w2 hown2 hb2 _))
    go_ret
    rw[HF.out]
    exact⟨_,rfl,hown2.ints (fun _ _ h=>h),hb1'.trans hb2⟩
   have hd4':=Int.not_lt.1 hd4
   clear hd4
   have HF:Hid (Y3 ⟨3,row,at_,n,nodes,slot,old,text⟩ i s r=[i-n+1]++[s]++r):=by
    show _=_
    unfold Y3
    repeat' split
    all_goals first|rfl|(exfalso;simp_all;done)|(exfalso;simp_all;omega)|(simp;done)|(simp;omega)
   have H0:=hid (Wm w ((w.alloc (Obj.cells #[.int .i64 3,.slice Ar lr cr,.int .i64 at_,.int .i64 n,.slice An nodes.length cn,.int .i64 slot,.string old,.string text] 49)).alloc (.cells #[.int .i64 i] 3)) ((ZO _ _).trans ((ZO _ _).mono (by simp))) [i-n+1] (m1 _) (by simp) s HS.out 1 (w.heap.size+1+1) (w.heap.size+1+1+1) rfl (by simp) (by simp) #[.int .i64 (i-n+1)] rfl)
   go_enter Tryz.func111,Tryz.ntmps111
   go_wp2_with (first|(at_builtin;refine YN rfl (.tmp 155) (.tmp 157) rfl w.heap.size _ [i-n+1] [s] rfl H0.out.1 _ _ _ _ rfl H0.out.2.1 (by simp) H0.out.2.2.size ?_;intro v1 w1 hown1 hb1 _;have hb1':=H0.out.2.2.trans hb1)|(at_builtin;refine YN rfl (.tmp 158) (.tmp 159) rfl w.heap.size v1 ([i-n+1]++[s]) r rfl hown1 _ _ _ _ rfl (HR.out _ hb1') (by simp;omega) hb1'.size ?_;intro v2 w2 hown2 hb2 _))
   go_ret
   rw[HF.out]
   exact⟨_,rfl,hown2.ints (fun _ _ h=>h),hb1'.trans hb2⟩
  have hc3':(kind==3)=false:=by simpa using hc3
  clear hc3
  by_cases hc4:kind=4
  ·subst hc4
   rcases Int.lt_trichotomy s slot with hl5|he5|hg5
   ·have hq5:(s==slot)=false:=by simp;omega
    have HF:Hid (Y3 ⟨4,row,at_,n,nodes,slot,old,text⟩ i s r=[at_]):=by
     show _=_
     unfold Y3
     repeat' split
     all_goals first|rfl|(exfalso;simp_all;done)|(exfalso;simp_all;omega)|(simp;done)|(simp;omega)
    go_enter Tryz.func111,Tryz.ntmps111
    go_wp2_with fail
    go_ret
    rw[HF.out]
    exact⟨_,rfl,Yg ((ZO _ _).trans ((ZO _ _).mono (by simp))) [at_] (m1 _) (by simp) _ _ rfl (by simp) _ rfl⟩
   ·have hq5:(s==slot)=true:=by simp;omega
    have hu5:s<=slot:=by omega
    have hv5:slot<=s:=by omega
    clear he5
    have HF:Hid (Y3 ⟨4,row,at_,n,nodes,slot,old,text⟩ i s r=(at_+r.headD 0)::r.tail):=by
     show _=_
     unfold Y3
     repeat' split
     all_goals first|rfl|(exfalso;simp_all;done)|(exfalso;simp_all;omega)|(simp;done)|(simp;omega)
    have q1:i=at_:=by omega
    have q2:s=slot:=by omega
    have HFF:=HF.out
    clear HF
    cases r with
    |nil=>exact absurd hr0 (by simp)
    |
     cons r0 rest =>
     subst q1 q2
     rw[HFF]
     simp only[List.headD_cons,List.tail_cons,List.length_cons]
     exact zWu _ _ _ _ _ _ _ _ _ Ar An Ap lr cr cn cp w HOP.out (HRB.out _ (by simp)) hrl HR0.out
   have hq5:(s==slot)=false:=by simp;omega
   have HF:Hid (Y3 ⟨4,row,at_,n,nodes,slot,old,text⟩ i s r=[at_+n]):=by
    show _=_
    unfold Y3
    repeat' split
    all_goals first|rfl|(exfalso;simp_all;done)|(exfalso;simp_all;omega)|(simp;done)|(simp;omega)
   go_enter Tryz.func111,Tryz.ntmps111
   go_wp2_with fail
   go_ret
   rw[HF.out]
   exact⟨_,rfl,Yg ((ZO _ _).trans ((ZO _ _).mono (by simp))) [at_+n] (m1 _) (by simp) _ _ rfl (by simp) _ rfl⟩
  have hc4':(kind==4)=false:=by simpa using hc4
  clear hc4
  have HF:Hid (Y3 ⟨kind,row,at_,n,nodes,slot,old,text⟩ i s r=[i]++[s]++r):=by
   show _=_
   unfold Y3
   repeat' split
   all_goals first|rfl|(exfalso;simp_all;done)|(exfalso;simp_all;omega)|(simp;done)|(simp;omega)
  have H0:=hid (Wm w (w.alloc (Obj.cells #[.int .i64 kind,.slice Ar lr cr,.int .i64 at_,.int .i64 n,.slice An nodes.length cn,.int .i64 slot,.string old,.string text] 49)) (ZO _ _) [i] (m1 _) (by simp) s HS.out 1 (w.heap.size+1) (w.heap.size+1+1) rfl (by simp) (by simp) #[.int .i64 (i)] rfl)
  go_enter Tryz.func111,Tryz.ntmps111
  go_wp2_with (first|(at_builtin;refine YN rfl (.tmp 155) (.tmp 157) rfl w.heap.size _ [i] [s] rfl H0.out.1 _ _ _ _ rfl H0.out.2.1 (by simp) H0.out.2.2.size ?_;intro v1 w1 hown1 hb1 _;have hb1':=H0.out.2.2.trans hb1)|(at_builtin;refine YN rfl (.tmp 158) (.tmp 159) rfl w.heap.size v1 ([i]++[s]) r rfl hown1 _ _ _ _ rfl (HR.out _ hb1') (by simp;omega) hb1'.size ?_;intro v2 w2 hown2 hb2 _))
  go_ret
  rw[HF.out]
  exact⟨_,rfl,hown2.ints (fun _ _ h=>h),hb1'.trans hb2⟩
 have hq0:(i==at_)=false:=by simp;omega
 by_cases hc1:kind=1
 ·subst hc1
  have HF:Hid (Y3 ⟨1,row,at_,n,nodes,slot,old,text⟩ i s r=[i+(nodes.length:Int)]++[s]++r):=by
   show _=_
   unfold Y3
   repeat' split
   all_goals first|rfl|(exfalso;simp_all;done)|(exfalso;simp_all;omega)|(simp;done)|(simp;omega)
  have H0:=hid (Wm w ((w.alloc (Obj.cells #[.int .i64 1,.slice Ar lr cr,.int .i64 at_,.int .i64 n,.slice An nodes.length cn,.int .i64 slot,.string old,.string text] 49)).alloc (.cells #[.int .i64 i] 3)) ((ZO _ _).trans ((ZO _ _).mono (by simp))) [i+(nodes.length:Int)] (m1 _) (by simp) s HS.out 1 (w.heap.size+1+1) (w.heap.size+1+1+1) rfl (by simp) (by simp) #[.int .i64 (i+(nodes.length:Int))] rfl)
  go_enter Tryz.func111,Tryz.ntmps111
  go_wp2_with (first|(at_builtin;refine YN rfl (.tmp 155) (.tmp 157) rfl w.heap.size _ [i+(nodes.length:Int)] [s] rfl H0.out.1 _ _ _ _ rfl H0.out.2.1 (by simp) H0.out.2.2.size ?_;intro v1 w1 hown1 hb1 _;have hb1':=H0.out.2.2.trans hb1)|(at_builtin;refine YN rfl (.tmp 158) (.tmp 159) rfl w.heap.size v1 ([i+(nodes.length:Int)]++[s]) r rfl hown1 _ _ _ _ rfl (HR.out _ hb1') (by simp;omega) hb1'.size ?_;intro v2 w2 hown2 hb2 _))
  go_ret
  rw[HF.out]
  exact⟨_,rfl,hown2.ints (fun _ _ h=>h),hb1'.trans hb2⟩
 have hc1':(kind==1)=false:=by simpa using hc1
 clear hc1
 by_cases hc2:kind=2
 ·subst hc2
  by_cases hd3:i<at_+(nodes.length:Int)
  ·skip
   have HF:Hid (Y3 ⟨2,row,at_,n,nodes,slot,old,text⟩ i s r=[at_]):=by
    show _=_
    unfold Y3
    repeat' split
    all_goals first|rfl|(exfalso;simp_all;done)|(exfalso;simp_all;omega)|(simp;done)|(simp;omega)
   go_enter Tryz.func111,Tryz.ntmps111
   go_wp2_with fail
   go_ret
   rw[HF.out]
   exact⟨_,rfl,Yg ((ZO _ _).trans ((ZO _ _).mono (by simp))) [at_] (m1 _) (by simp) _ _ rfl (by simp) _ rfl⟩
  have hd3':=Int.not_lt.1 hd3
  clear hd3
  have HF:Hid (Y3 ⟨2,row,at_,n,nodes,slot,old,text⟩ i s r=[i-(nodes.length:Int)]++[s]++r):=by
   show _=_
   unfold Y3
   repeat' split
   all_goals first|rfl|(exfalso;simp_all;done)|(exfalso;simp_all;omega)|(simp;done)|(simp;omega)
  have H0:=hid (Wm w ((w.alloc (Obj.cells #[.int .i64 2,.slice Ar lr cr,.int .i64 at_,.int .i64 n,.slice An nodes.length cn,.int .i64 slot,.string old,.string text] 49)).alloc (.cells #[.int .i64 i] 3)) ((ZO _ _).trans ((ZO _ _).mono (by simp))) [i-(nodes.length:Int)] (m1 _) (by simp) s HS.out 1 (w.heap.size+1+1) (w.heap.size+1+1+1) rfl (by simp) (by simp) #[.int .i64 (i-(nodes.length:Int))] rfl)
  go_enter Tryz.func111,Tryz.ntmps111
  go_wp2_with (first|(at_builtin;refine YN rfl (.tmp 155) (.tmp 157) rfl w.heap.size _ [i-(nodes.length:Int)] [s] rfl H0.out.1 _ _ _ _ rfl H0.out.2.1 (by simp) H0.out.2.2.size ?_;intro v1 w1 hown1 hb1 _;have hb1':=H0.out.2.2.trans hb1)|(at_builtin;refine YN rfl (.tmp 158) (.tmp 159) rfl w.heap.size v1 ([i-(nodes.length:Int)]++[s]) r rfl hown1 _ _ _ _ rfl (HR.out _ hb1') (by simp;omega) hb1'.size ?_;intro v2 w2 hown2 hb2 _))
  go_ret
  rw[HF.out]
  exact⟨_,rfl,hown2.ints (fun _ _ h=>h),hb1'.trans hb2⟩
 have hc2':(kind==2)=false:=by simpa using hc2
 clear hc2
 by_cases hc3:kind=3
 ·subst hc3
  by_cases hd4:i<at_+n
  ·skip
   have HF:Hid (Y3 ⟨3,row,at_,n,nodes,slot,old,text⟩ i s r=[at_,slot,i-at_]++[s]++r):=by
    show _=_
    unfold Y3
    repeat' split
    all_goals first|rfl|(exfalso;simp_all;done)|(exfalso;simp_all;omega)|(simp;done)|(simp;omega)
   have H0:=hid (Wm w ((w.alloc (Obj.cells #[.int .i64 3,.slice Ar lr cr,.int .i64 at_,.int .i64 n,.slice An nodes.length cn,.int .i64 slot,.string old,.string text] 49)).alloc (.cells #[.int .i64 i] 3)) ((ZO _ _).trans ((ZO _ _).mono (by simp))) [at_,slot,i-at_] (m3 _ _ _) (by simp) s HS.out 3 (w.heap.size+1+1) (w.heap.size+1+1+1) rfl (by simp) (by simp) #[.int .i64 (at_),.int .i64 (slot),.int .i64 (i-at_)] rfl)
   go_enter Tryz.func111,Tryz.ntmps111
   go_wp2_with (first|(at_builtin;refine YN rfl (.tmp 155) (.tmp 157) rfl w.heap.size _ [at_,slot,i-at_] [s] rfl H0.out.1 _ _ _ _ rfl H0.out.2.1 (by simp) H0.out.2.2.size ?_;intro v1 w1 hown1 hb1 _;have hb1':=H0.out.2.2.trans hb1)|(at_builtin;refine YN rfl (.tmp 158) (.tmp 159) rfl w.heap.size v1 ([at_,slot,i-at_]++[s]) r rfl hown1 _ _ _ _ rfl (HR.out _ hb1') (by simp;omega) hb1'.size ?_;intro v2 w2 hown2 hb2 _))
   go_ret
   rw[HF.out]
   exact⟨_,rfl,hown2.ints (fun _ _ h=>h),hb1'.trans hb2⟩
  have hd4':=Int.not_lt.1 hd4
  clear hd4
  have HF:Hid (Y3 ⟨3,row,at_,n,nodes,slot,old,text⟩ i s r=[i-n+1]++[s]++r):=by
   show _=_
   unfold Y3
   repeat' split
   all_goals first|rfl|(exfalso;simp_all;done)|(exfalso;simp_all;omega)|(simp;done)|(simp;omega)
  have H0:=hid (Wm w ((w.alloc (Obj.cells #[.int .i64 3,.slice Ar lr cr,.int .i64 at_,.int .i64 n,.slice An nodes.length cn,.int .i64 slot,.string old,.string text] 49)).alloc (.cells #[.int .i64 i] 3)) ((ZO _ _).trans ((ZO _ _).mono (by simp))) [i-n+1] (m1 _) (by simp) s HS.out 1 (w.heap.size+1+1) (w.heap.size+1+1+1) rfl (by simp) (by simp) #[.int .i64 (i-n+1)] rfl)
  go_enter Tryz.func111,Tryz.ntmps111
  go_wp2_with (first|(at_builtin;refine YN rfl (.tmp 155) (.tmp 157) rfl w.heap.size _ [i-n+1] [s] rfl H0.out.1 _ _ _ _ rfl H0.out.2.1 (by simp) H0.out.2.2.size ?_;intro v1 w1 hown1 hb1 _;have hb1':=H0.out.2.2.trans hb1)|(at_builtin;refine YN rfl (.tmp 158) (.tmp 159) rfl w.heap.size v1 ([i-n+1]++[s]) r rfl hown1 _ _ _ _ rfl (HR.out _ hb1') (by simp;omega) hb1'.size ?_;intro v2 w2 hown2 hb2 _))
  go_ret
  rw[HF.out]
  exact⟨_,rfl,hown2.ints (fun _ _ h=>h),hb1'.trans hb2⟩
 have hc3':(kind==3)=false:=by simpa using hc3
 clear hc3
 by_cases hc4:kind=4
 ·subst hc4
  have HF:Hid (Y3 ⟨4,row,at_,n,nodes,slot,old,text⟩ i s r=[i-1+n]++[s]++r):=by
   show _=_
   unfold Y3
   repeat' split
   all_goals first|rfl|(exfalso;simp_all;done)|(exfalso;simp_all;omega)|(simp;done)|(simp;omega)
  have H0:=hid (Wm w ((w.alloc (Obj.cells #[.int .i64 4,.slice Ar lr cr,.int .i64 at_,.int .i64 n,.slice An nodes.length cn,.int .i64 slot,.string old,.string text] 49)).alloc (.cells #[.int .i64 i] 3)) ((ZO _ _).trans ((ZO _ _).mono (by simp))) [i-1+n] (m1 _) (by simp) s HS.out 1 (w.heap.size+1+1) (w.heap.size+1+1+1) rfl (by simp) (by simp) #[.int .i64 (i-1+n)] rfl)
  go_enter Tryz.func111,Tryz.ntmps111
  go_wp2_with (first|(at_builtin;refine YN rfl (.tmp 155) (.tmp 157) rfl w.heap.size _ [i-1+n] [s] rfl H0.out.1 _ _ _ _ rfl H0.out.2.1 (by simp) H0.out.2.2.size ?_;intro v1 w1 hown1 hb1 _;have hb1':=H0.out.2.2.trans hb1)|(at_builtin;refine YN rfl (.tmp 158) (.tmp 159) rfl w.heap.size v1 ([i-1+n]++[s]) r rfl hown1 _ _ _ _ rfl (HR.out _ hb1') (by simp;omega) hb1'.size ?_;intro v2 w2 hown2 hb2 _))
  go_ret
  rw[HF.out]
  exact⟨_,rfl,hown2.ints (fun _ _ h=>h),hb1'.trans hb2⟩
 have hc4':(kind==4)=false:=by simpa using hc4
 clear hc4
 have HF:Hid (Y3 ⟨kind,row,at_,n,nodes,slot,old,text⟩ i s r=[i]++[s]++r):=by
  show _=_
  unfold Y3
  repeat' split
  all_goals first|rfl|(exfalso;simp_all;done)|(exfalso;simp_all;omega)|(simp;done)|(simp;omega)
 have H0:=hid (Wm w (w.alloc (Obj.cells #[.int .i64 kind,.slice Ar lr cr,.int .i64 at_,.int .i64 n,.slice An nodes.length cn,.int .i64 slot,.string old,.string text] 49)) (ZO _ _) [i] (m1 _) (by simp) s HS.out 1 (w.heap.size+1) (w.heap.size+1+1) rfl (by simp) (by simp) #[.int .i64 (i)] rfl)
 go_enter Tryz.func111,Tryz.ntmps111
 go_wp2_with (first|(at_builtin;refine YN rfl (.tmp 155) (.tmp 157) rfl w.heap.size _ [i] [s] rfl H0.out.1 _ _ _ _ rfl H0.out.2.1 (by simp) H0.out.2.2.size ?_;intro v1 w1 hown1 hb1 _;have hb1':=H0.out.2.2.trans hb1)|(at_builtin;refine YN rfl (.tmp 158) (.tmp 159) rfl w.heap.size v1 ([i]++[s]) r rfl hown1 _ _ _ _ rfl (HR.out _ hb1') (by simp;omega) hb1'.size ?_;intro v2 w2 hown2 hb2 _))
 go_ret
 rw[HF.out]
 exact⟨_,rfl,hown2.ints (fun _ _ h=>h),hb1'.trans hb2⟩
set_option maxRecDepth 100000 in
theorem zWd (op:ZB) (pos:List Int) (after:Bool) (Ar An Ap:Option Addr) (cr cn cp:Nat) (w:World) (hop:op.Ok) (hr:Z0 w (Lt w.heap.size) op.row (.slice Ar op.row.length cr)) (hpos:Z0 w (Lt w.heap.size) pos (.slice Ap pos.length cp)) (hpl:pos.length<=100000)
  (hb:∀x∈pos,Bd 1152921504606846976 x) (hw:Yt pos op.row=true) (hlen:op.row.length+2<pos.length) (x y:Int) (hx:pos[op.row.length]?=some x) (hy:pos[op.row.length+1]?=some y) :
  Calls Tryz.prog 78 #[.agg (Zu op (.slice Ar op.row.length cr) (.slice An op.nodes.length cn)),.slice Ap pos.length cp,.bool after] w (WZ w (op.row++Y3 op x y (pos.drop (op.row.length+2)))):=by
 have hrl:=hop.row
 have HW:Hid (∀W,Below w.heap.size w W->Calls Tryz.prog 109 #[.slice Ap pos.length cp,.slice Ar op.row.length cr] W fun e w'=>e=.returned (.bool true)/\∃n,w'=W.drewN n):=by
  intro W hW
  have:=zV6 pos op.row W _ _ _ _ (hpos.below hW (Nat.le_refl _)) (hr.below hW (Nat.le_refl _)) (by omega)
  rw[hw] at this
  exact this
 obtain⟨A2,hsl2,hcut2⟩:=Wn ZF Tryz.underlying25 XA Ap pos.length cp ((op.row.length:Int)+2) (op.row.length+2) (by omega) (by omega)
 have HC2:=hid (hcut2 _ _ _ hpos)
 have HO:Hid (∀W,Below w.heap.size w W->Calls Tryz.prog 111 #[.agg (Zu op (.slice Ar op.row.length cr) (.slice An op.nodes.length cn)),.int .i64 x,.int .i64 y,.slice A2 (pos.length-(op.row.length+2)) (cp-(op.row.length+2))] W (WZ W (Y3 op x y (pos.drop (op.row.length+2))))):=by
  intro W hW
  have h:=zWn op x y (pos.drop (op.row.length+2)) Ar An A2 op.row.length cr cn (cp-(op.row.length+2)) W hop (hb x (List.mem_of_getElem? hx)) (hb y (List.mem_of_getElem? hy)) (fun z hz=>hb z (List.mem_of_mem_drop hz)) (by simp;omega) (by simp;omega)
   (by rw[List.length_drop];exact HC2.out.below hW hW.size)
  rw[List.length_drop] at h
  exact h
 have HR:Hid (∀W,Below w.heap.size w W->Z0 W (Lt w.heap.size) op.row (.slice Ar op.row.length cr)):=fun W hW=>hr.below hW (Nat.le_refl _)
 have hol:(Y3 op x y (pos.drop (op.row.length+2))).length<=200000:=by
  have hdl:(pos.drop (op.row.length+2)).length<=100000:=by simp;omega
  generalize pos.drop (op.row.length+2)=d at *
  unfold Y3;(repeat' split)<;>simp<;>omega
 obtain⟨A,cap,rs,e,h1,h2,hrd,hls⟩:=hpos
 injection e with q1 q2 q3
 subst q1 q3
 have hlt:op.row.length<pos.length:=by omega
 have hlt1:op.row.length+1<pos.length:=by omega
 obtain⟨g,o,rfl,hg,hi,c0⟩:=YG hrd hls hlt
 obtain⟨g',o',e',hgg,hi',c1⟩:=YG hrd hls hlt1
 injection e' with e'
 injection e' with e1' e2'
 subst e1' e2'
 obtain rfl:pos[op.row.length]=x:=by rw[List.getElem?_eq_getElem hlt] at hx;exact Option.some.inj hx
 obtain rfl:pos[op.row.length+1]=y:=by rw[List.getElem?_eq_getElem hlt1] at hy;exact Option.some.inj hy
 have hg':g<w.heap.size:=hg
 generalize hofs:Y3 op pos[op.row.length] pos[op.row.length+1] (pos.drop (op.row.length+2))=ofs at *
 generalize hxx:pos[op.row.length]=x at *
 generalize hyy:pos[op.row.length+1]=y at *
 obtain⟨kind,row,at_,n,nodes,slot,old,text⟩:=op
 simp only[Zu] at *
 have e1:((pos.length:Int)==(row.length:Int)+1)=false:=by simp;omega
 have hr2:(row.length:Int)<(pos.length:Int):=by omega
 have hw1:IntKind.i64.wrap ((row.length:Int)+2)=(row.length:Int)+2:=IntWalk.i64_in _ (by omega)
 have hw2:IntKind.i64.wrap ((row.length:Int)+1)=(row.length:Int)+1:=IntWalk.i64_in _ (by omega)
 have ht1:((row.length:Int)+1).toNat=row.length+1:=by omega
 have hp1:(0:Int)<=(row.length:Int)+1:=by omega
 have hp2:(row.length:Int)+1<(pos.length:Int):=by omega
 clear hop hr hw hrd hls q2 hg hi hb hofs hxx hyy hlen hx hy h1 h2 hcut2 hgg hi'
 go_enter Tryz.func78,Tryz.ntmps78
 go_wp2_with fail
 refine(HW.out _ (ZO _ _)).mono ?_
 rintro e w1 ⟨rfl,nq,rfl⟩
 rw[Wz]
 generalize hw0:w.drewN nq=w0
 have hz0:w.heap.size=w0.heap.size:=by rw[<-hw0];rfl
 have HB:Hid (Below w.heap.size w w0):=by rw[<-hw0];exact zV1 _ _
 have d0:w0.cell? ⟨g,o+row.length,none⟩=some (.int .i64 x):=by rw[<-hw0];exact c0
 have d1:w0.cell? ⟨g,o+(row.length+1),none⟩=some (.int .i64 y):=by rw[<-hw0];exact c1
 rw[hz0] at hg'
 rw[hz0]
 clear hw0 hz0 c0 c1
 obtain⟨o1,ho1⟩:∃o1,o1=Obj.cells #[.int .i64 kind,.slice Ar row.length cr,.int .i64 at_,.int .i64 n,.slice An nodes.length cn,.int .i64 slot,.string old,.string text] 49:=⟨_,rfl⟩
 have HBa:Hid (Below w.heap.size w (w0.alloc o1)):=HB.out.trans ((ZO _ _).mono HB.out.size)
 have HBb:Hid (Below w.heap.size w ((w0.alloc o1).alloc (.cells #[] 3))):=HBa.out.trans ((ZO _ _).mono HBa.out.size)
 have HBc:Hid (Below (w0.heap.size+1) (w0.alloc o1) ((w0.alloc o1).alloc (.cells #[] 3))):=(ZO _ _).mono (by simp)
 rw[ho1] at HBa HBb HBc
 clear ho1 o1
 go_wp2_with (at_builtin;refine YN rfl (.tmp 20) (.tmp 22) rfl (w0.heap.size+1) _ [] row rfl (Ru _ _ [] (by simp) 0 _ rfl (by simp) (by simp) _ rfl (by simp)) _ _ _ _ rfl (HR.out _ HBb.out) (by simp;omega) (by simp) ?_;intro v1 w2 hown1 hb1 _)
 have ho1:Zi w2 (w0.heap.size+1) row v1:=by simpa using hown1
 have HO1:=hid ho1
 have hbx:=HBc.out.trans hb1
 have HX:=hid hbx
 have hcx:=(bcell hbx).1
 have m0:w2.cell? ⟨w0.heap.size,0,none⟩=some (.int .i64 kind):=(hcx w0.heap.size 0 (by omega)).trans (by rw[World.cell?_alloc_new];rfl)
 have m1:w2.cell? ⟨w0.heap.size,1,none⟩=some (.slice Ar row.length cr):=(hcx w0.heap.size 1 (by omega)).trans (by rw[World.cell?_alloc_new];rfl)
 have m2:w2.cell? ⟨w0.heap.size,2,none⟩=some (.int .i64 at_):=(hcx w0.heap.size 2 (by omega)).trans (by rw[World.cell?_alloc_new];rfl)
 have m3:w2.cell? ⟨w0.heap.size,3,none⟩=some (.int .i64 n):=(hcx w0.heap.size 3 (by omega)).trans (by rw[World.cell?_alloc_new];rfl)
 have m4:w2.cell? ⟨w0.heap.size,4,none⟩=some (.slice An nodes.length cn):=(hcx w0.heap.size 4 (by omega)).trans (by rw[World.cell?_alloc_new];rfl)
 have m5:w2.cell? ⟨w0.heap.size,5,none⟩=some (.int .i64 slot):=(hcx w0.heap.size 5 (by omega)).trans (by rw[World.cell?_alloc_new];rfl)
 have m6:w2.cell? ⟨w0.heap.size,6,none⟩=some (.string old):=(hcx w0.heap.size 6 (by omega)).trans (by rw[World.cell?_alloc_new];rfl)
 have m7:w2.cell? ⟨w0.heap.size,7,none⟩=some (.string text):=(hcx w0.heap.size 7 (by omega)).trans (by rw[World.cell?_alloc_new];rfl)
 have m8:w2.cell? ⟨g,o+row.length,none⟩=some (.int .i64 x):=(hcx g (o+row.length) (by omega)).trans ((World.cell?_alloc_lt _ _ _ hg').trans d0)
 have m9:w2.cell? ⟨g,o+(row.length+1),none⟩=some (.int .i64 y):=(hcx g (o+(row.length+1)) (by omega)).trans ((World.cell?_alloc_lt _ _ _ hg').trans d1)
 have HBw:Hid (Below w.heap.size w w2):=HBb.out.trans (hb1.mono (by have:=HB.out.size;omega))
 clear hown1 ho1 hbx hcx hb1 d0 d1 HBa HBb HBc
 have z2:w0.heap.size<w2.heap.size:=by have:=HX.out.size;simp at this;omega
 have KEEP:Hid (∀w3,Below w2.heap.size w2 w3->(∀j u,w2.cell? ⟨w0.heap.size,j,none⟩=some u->w3.cell? ⟨w0.heap.size,j,none⟩=some u)/\(∀j u,w2.cell? ⟨g,j,none⟩=some u->w3.cell? ⟨g,j,none⟩=some u)) :=
  fun w3 h=>⟨fun j u hu=>((bcell h).1 _ _ z2).trans hu,fun j u hu=>((bcell h).1 _ _ (by omega)).trans hu⟩
 have KEEP2:Hid (∀w3 w4,Below w2.heap.size w2 w3->Below (w0.heap.size+1) w3 w4->(∀j u,w2.cell? ⟨w0.heap.size,j,none⟩=some u->w4.cell? ⟨w0.heap.size,j,none⟩=some u)/\(∀j u,w2.cell? ⟨g,j,none⟩=some u->w4.cell? ⟨g,j,none⟩=some u)) :=
  fun w3 w4 h h'=>⟨fun j u hu=>((bcell h').1 _ _ (by omega)).trans ((KEEP.out w3 h).1 j u hu),fun j u hu=>((bcell h').1 _ _ (by omega)).trans ((KEEP.out w3 h).2 j u hu)⟩
 obtain⟨Av,cv,hv1⟩:=(HO1.out.ints (S:=fun _=>True) (fun _ _ _=>trivial)).form
 subst hv1
 go_region_held3 (fun w'=>w'.cell? ⟨w0.heap.size,0,none⟩=some (.int .i64 kind)/\w'.cell? ⟨w0.heap.size,1,none⟩=some (.slice Ar row.length cr)/\w'.cell? ⟨w0.heap.size,2,none⟩=some (.int .i64 at_)/\w'.cell? ⟨w0.heap.size,3,none⟩=some (.int .i64 n)/\w'.cell? ⟨w0.heap.size,4,none⟩=some (.slice An nodes.length cn)/\w'.cell? ⟨w0.heap.size,5,none⟩=some (.int .i64 slot)/\w'.cell? ⟨w0.heap.size,6,none⟩=some (.string old)/\w'.cell? ⟨w0.heap.size,7,none⟩=some (.string text)/\w'.cell? ⟨g,o+row.length,none⟩=some (.int .i64 x)/\w'.cell? ⟨g,o+(row.length+1),none⟩=some (.int .i64 y)) (go_keep) (first|(go_at_call 111;refine(HO.out _ HBw.out.drew).mono ?_;rintro e w3 ⟨v3,rfl,hi3,hb3⟩;obtain⟨A3,c3,rfl⟩:=hi3.form;have hb3':=zV3 hb3;have HI3:=hid hi3;have HB3:=hid hb3';have HO3:=hid (HO1.out.below hb3');have k0:=(KEEP.out w3 hb3').1 0 _ m0;have k1:=(KEEP.out w3 hb3').1 1 _ m1;have k2:=(KEEP.out w3 hb3').1 2 _ m2;have k3:=(KEEP.out w3 hb3').1 3 _ m3;have k4:=(KEEP.out w3 hb3').1 4 _ m4;have k5:=(KEEP.out w3 hb3').1 5 _ m5;have k6:=(KEEP.out w3 hb3').1 6 _ m6;have k7:=(KEEP.out w3 hb3').1 7 _ m7;have k8:=(KEEP.out w3 hb3').2 _ _ m8;have k9:=(KEEP.out w3 hb3').2 _ _ m9;clear hi3 hb3 hb3')|(refine zV0 (by rfl) (.tmp 38) (.tmp 53) (by rfl) (w0.heap.size+1) _ row ofs (by rfl) HO3.out _ _ _ _ (by rfl) HI3.out (by omega) (by have:=HB3.out.size;omega) ?_;intro v4 w4 hown4 hb4 _;have k0:=(KEEP2.out w3 w4 HB3.out hb4).1 0 _ m0;have k1:=(KEEP2.out w3 w4 HB3.out hb4).1 1 _ m1;have k2:=(KEEP2.out w3 w4 HB3.out hb4).1 2 _ m2;have k3:=(KEEP2.out w3 w4 HB3.out hb4).1 3 _ m3;have k4:=(KEEP2.out w3 w4 HB3.out hb4).1 4 _ m4;have k5:=(KEEP2.out w3 w4 HB3.out hb4).1 5 _ m5;have k6:=(KEEP2.out w3 w4 HB3.out hb4).1 6 _ m6;have k7:=(KEEP2.out w3 w4 HB3.out hb4).1 7 _ m7;have k8:=(KEEP2.out w3 w4 HB3.out hb4).2 _ _ m8;have k9:=(KEEP2.out w3 w4 HB3.out hb4).2 _ _ m9))
 have HO4:=hid hown4
 have HB4:Hid (Below w.heap.size w w4):=(HBw.out.trans (HB3.out.mono HBw.out.size)).trans (hb4.mono (by have:=HB.out.size;omega))
 clear hown4 hb4
 go_wp2_with fail
 go_ret
 exact⟨_,rfl,HO4.out.ints (fun _ _ h=>h),HB4.out⟩
def Uz (op:ZB) (pos:List Int) (after:Bool):List Int :=
 if Yt pos op.row=true then
  (if pos.length=op.row.length+1 then op.row++Y4 op (pos.getD op.row.length 0) after else op.row++Y3 op (pos.getD op.row.length 0) (pos.getD (op.row.length+1) 0) (pos.drop (op.row.length+2)))
 else pos
theorem zWi (op:ZB) (pos:List Int) (after:Bool) (Ar An Ap:Option Addr) (cr cn cp:Nat) (w:World) (ag:op.Ok) (hr:Z0 w (Lt w.heap.size) op.row (.slice Ar op.row.length cr)) (aa:Z0 w (Lt w.heap.size) pos (.slice Ap pos.length cp)) (af:pos.length<=100000)
  (hb:∀x∈pos,Bd 1152921504606846976 x) :
  Calls Tryz.prog 78 #[.agg (Zu op (.slice Ar op.row.length cr) (.slice An op.nodes.length cn)),.slice Ap pos.length cp,.bool after] w (WZ w (Uz op pos after)):=by
 unfold Uz;split
 ·rename_i hw;have ae:=hw;unfold Yt at ae;simp only[decide_eq_true_eq] at ae;obtain⟨h1,h2,h3⟩:=ae;have hx:pos[op.row.length]?=some (pos.getD op.row.length 0):=by rw[List.getD_eq_getElem?_getD,List.getElem?_eq_getElem h1];rfl
  split
  ·rename_i h;exact zWc op pos after Ar An Ap cr cn cp w ag hr aa af hb hw h _ hx
  rename_i h;have hy:pos[op.row.length+1]?=some (pos.getD (op.row.length+1) 0):=by rw[List.getD_eq_getElem?_getD,List.getElem?_eq_getElem (by omega)];rfl
  exact zWd op pos after Ar An Ap cr cn cp w ag hr aa af hb hw (by omega) _ _ hx hy
 rename_i h;exact zWt op pos after Ar An Ap cr cn cp w ag hr aa af (by simpa using h)
theorem zUs (op:ZB) (x:Int) (after:Bool):(WL ⟨op,op.nodes.length,x,false,0,[]⟩ after).1=Y4 op x after:=by
 obtain⟨kind,row,at_,n,nodes,slot,old,text⟩:=op;generalize hK:(nodes.length:Int)=K;have hK0:0<=K:=by omega
 unfold WL WW Xl XT Xm YU Y4;simp only[hK];by_cases h1:kind=1
 ·subst h1;simp;rcases Int.lt_trichotomy x at_ with h|h|h<;>cases after<;>(repeat' split)<;>first|rfl|(exfalso;omega)|(simp_all;done)|(simp_all;omega)
 by_cases h2:kind=2
 ·subst h2;simp<;>(repeat' split)<;>first|rfl|(exfalso;omega)|(simp_all;done)|(simp_all;omega)
 by_cases h3:kind=3
 ·subst h3;simp;cases after<;>(repeat' split)<;>first|rfl|(exfalso;omega)|(simp_all;done)|(simp_all;omega)
 by_cases h4:kind=4
 ·subst h4;simp<;>(repeat' split)<;>first|rfl|(exfalso;omega)|(simp_all;done)|(simp_all;omega)
 simp[h1,h2,h3,h4]
theorem zUt (op:ZB) (x y:Int) (r:List Int) (after:Bool):(WL ⟨op,op.nodes.length,x,true,y,r⟩ after).1=Y3 op x y r:=by
 obtain⟨kind,row,at_,n,nodes,slot,old,text⟩:=op;generalize hK:(nodes.length:Int)=K;have hK0:0<=K:=by omega
 unfold WL WW Xl XT Xm YU Y3;simp only[hK];by_cases h1:kind=1
 ·subst h1;simp<;>(repeat' split)<;>first|rfl|(exfalso;omega)|(simp_all;done)|(simp_all;omega)
 by_cases h2:kind=2
 ·subst h2;simp<;>(repeat' split)<;>first|rfl|(exfalso;omega)|(simp_all;done)|(simp_all;omega)
 by_cases h3:kind=3
 ·subst h3;simp<;>(repeat' split)<;>first|rfl|(exfalso;omega)|(simp_all;done)|(simp_all;omega)
 by_cases h4:kind=4
 ·subst h4;simp<;>(repeat' split)<;>first|rfl|(exfalso;omega)|(simp_all;done)|(simp_all;omega)
 simp[h1,h2,h3,h4]
theorem zSz (op:ZB) (pos:List Int) (after:Bool):WN op pos after=Uz op pos after:=by
 unfold WN Uz;split
 ·rename_i hw;obtain⟨h1,h2,h3⟩:=zRd.1 hw;unfold XQ;split
  ·rename_i h;rw[if_neg (by omega),zUt]
  rename_i h;rw[if_pos (by omega),zUs]
 rfl
theorem Rx (t:Z9) (i k:Int) (p:List Int):ZA t (i::k::p)=(decide (0<=i/\i.toNat<t.kids.length)&&(decide (0<=k/\k.toNat<(ZY t i).kids.length)&&ZA (ZY (ZY t i) k) p)):=by
 rw[ZA];split
 ·rename_i hi;rw[UL hi.2];split
  ·rename_i hk;rw[UL hk.2];simp[hi,hk]
  rename_i hk;simp[hi,hk]
 rename_i hi;simp[hi]
theorem Vr (t:Z9) (i k:Int) (p:List Int) (h:(ZM t (i::k::p)).2=true):(0<=i/\i.toNat<t.kids.length)/\(0<=k/\k.toNat<(ZY t i).kids.length)/\ZM t (i::k::p)=ZM (ZY (ZY t i) k) p:=by
 rw[ZM] at h ⊢;split at h
 ·rename_i hi;split at h
  ·rename_i hk;refine⟨hi,⟨hk.1,by rw[UL hi.2];exact hk.2⟩,?_⟩;rw[dif_pos hi,dif_pos hk,UL hi.2,UL hk.2]
  cases h
 cases h
theorem zK7 (t:Z9) (i:Nat) (k:Z9):(Y0 t i k).kids.length=t.kids.length:=List.length_set
theorem zI7 {t:Z9} {i:Int} {k:Z9} (hi:i.toNat<t.kids.length):ZY (Y0 t i.toNat k) i=k:=by
 show (t.kids.set i.toNat k).getD i.toNat ZJ=k;rw[List.getD_eq_getElem?_getD,List.getElem?_set_self hi];rfl
theorem zJd:(p:List Int)->(t:Z9)->(q:List Int)->(ZM t p).2=true->ZA t (p++q)=ZA (ZM t p).1 q
 |[],t,q,_=>rfl
 |[_],t,q,h=>by simp[ZM] at h
 |
  i::k::p,t,q,h=>by
  obtain⟨hi,hk,he⟩:=Vr t i k p h;rw[he] at h ⊢;show ZA t (i::k::(p++q))=_;rw[Rx,zJd p _ q h];simp[hi,hk]
theorem zLe (t:Z9) (x:Int):ZA t [x]=decide (0<=x/\x<=t.kids.length):=by rw[ZA]
theorem Rw:(q:List Int)->(t:Z9)->ZA t q=true->q.length % 2=1
 |[],t,h=>by simp[ZA] at h
 |[x],t,h=>rfl
 |
  i::k::p,t,h=>by
  rw[Rx] at h;simp only[Bool.and_eq_true] at h;have:=Rw p _ h.2.2;simp only[List.length_cons];omega
theorem zId:(p:List Int)->(t:Z9)->(ZM t p).2=true->p.length % 2=0
 |[],t,h=>rfl
 |[x],t,h=>by simp[ZM] at h
 |
  i::k::p,t,h=>by
  obtain⟨_,_,he⟩:=Vr t i k p h;rw[he] at h;have:=zId p _ h;simp only[List.length_cons];omega
def icmp (a b:Int):Int:=if a<b then -1 else if b<a then 1 else 0
theorem zM0 (a:Int) (w:World):Calls Tryz.prog 167 #[.int .i64 a] w fun e w'=>e=.returned (.bool false)/\w=w':=by
 go_enter Tryz.func167,Tryz.ntmps167
 go_wp2
 go_ret;exact⟨by simp,rfl⟩
theorem U9 (a b:Int) (w:World):Calls Tryz.prog 148 #[.int .i64 a,.int .i64 b] w fun e w'=>e=.returned (.int .i64 (icmp a b))/\w=w':=by
 by_cases h1:a<b
 ·have HF:Hid (icmp a b=-1):=by show _=_;rw[icmp,if_pos h1]
  go_enter Tryz.func148,Tryz.ntmps148
  go_wp2_with (go_at_call 167;refine(zM0 _ _).mono ?_;rintro e w' ⟨rfl,rfl⟩)
  go_ret;exact⟨by rw[HF.out];rfl,rfl⟩
 by_cases h2:b<a
 ·have HF:Hid (icmp a b=1):=by show _=_;rw[icmp,if_neg h1,if_pos h2]
  have d1:decide (a<b)=false:=by simpa using h1
  go_enter Tryz.func148,Tryz.ntmps148
  go_wp2_with (go_at_call 167;refine(zM0 _ _).mono ?_;rintro e w' ⟨rfl,rfl⟩)
  go_ret;exact⟨by rw[HF.out];rfl,rfl⟩
 have HF:Hid (icmp a b=0):=by show _=_;rw[icmp,if_neg h1,if_neg h2]
 have d1:decide (a<b)=false:=by simpa using h1
 have d2:decide (b<a)=false:=by simpa using h2
 go_enter Tryz.func148,Tryz.ntmps148
 go_wp2_with (go_at_call 167;refine(zM0 _ _).mono ?_;rintro e w' ⟨rfl,rfl⟩)
 go_ret;exact⟨by rw[HF.out];rfl,rfl⟩
theorem T9 {a b:Int} {l r:List Int} (h:icmp a b≠0):ZP (a::l) (b::r)=icmp a b:=by
 unfold icmp at *;rw[ZP];split<;>simp_all
theorem TZ {a b:Int} {l r:List Int} (h:icmp a b=0):ZP (a::l) (b::r)=ZP l r:=by
 unfold icmp at h;rw[ZP];by_cases h1:a<b
 ·rw[if_pos h1] at h;omega
 by_cases h2:b<a
 ·rw[if_neg h1,if_pos h2] at h;omega
 rw[if_neg h1,if_neg h2]
theorem scmp_q (xs ys:List Int) (w:World) (a b:Value) (B B':Nat->Prop) (ha:Z0 w B xs a) (hb:Z0 w B' ys b) :
  Calls Tryz.prog 119 #[a,b] w fun e w'=>e=.returned (.int .i64 (ZP xs ys))/\w=w':=by
 obtain⟨A,cap,rs,rfl,ax,ah,aj,ak⟩:=ha;obtain⟨A',cap',ai,rfl,av,af,ae,ag⟩:=hb;unfold maxLen at ah af;have hl1:xs.length<=9223372036854775807:=by omega
 have hl2:ys.length<=9223372036854775807:=by omega
 have H:Hid ((Zl w B A rs/\ZK ZF w B xs rs)/\(Zl w B' A' ai/\ZK ZF w B' ys ai)):=⟨⟨aj,ak⟩,⟨ae,ag⟩⟩;clear aj ak ae ag;go_enter Tryz.func119,Tryz.ntmps119
 go_wp2
 go_loop [11] (fun i=>∃(k:Nat),k<=xs.length/\k<=ys.length/\i=.int .i64 k/\ZP (xs.drop k) (ys.drop k)=ZP xs ys) (fun i=>xs.length-(intOf i).toNat)
 case atStart=>exact⟨0,QU _,QU _,rfl,rfl⟩
 obtain⟨k,hk,hk',rfl,aa⟩:=hrel;have HR:=hid aa;clear aa;by_cases hx:k<xs.length
 ·obtain⟨g,o,rfl,hg,hi,c0⟩:=YG H.out.1.1 H.out.1.2 hx;have i1:(k:Int)<(xs.length:Int):=by omega
  by_cases hy:k<ys.length
  ·obtain⟨g',o',rfl,hg',hi',c0'⟩:=YG H.out.2.1 H.out.2.2 hy;have i2:(k:Int)<(ys.length:Int):=by omega
   have i3:decide ((ys.length:Int)<=(k:Int))=false:=by simp;omega
   by_cases h0:icmp xs[k] ys[k]=0
   ·have HF:Hid (ZP (xs.drop k) (ys.drop k)=ZP (xs.drop (k+1)) (ys.drop (k+1))):=by show _=_;rw[List.drop_eq_getElem_cons hx,List.drop_eq_getElem_cons hy,TZ h0]
    go_wp2_with (go_at_call 148;refine(U9 _ _ _).mono ?_;rintro e w' ⟨rfl,rfl⟩)
    go_round
    case rel=>exact⟨k+1,by omega,by omega,by go_num,by rw[<-HR.out,HF.out]⟩
    case measure=>simp[intOf];omega
   have HF:Hid (ZP (xs.drop k) (ys.drop k)=icmp xs[k] ys[k]):=by show _=_;rw[List.drop_eq_getElem_cons hx,List.drop_eq_getElem_cons hy,T9 h0]
   have h1:(!(icmp xs[k] ys[k]==0))=true:=by simpa using h0
   have HC:Hid (∀W,Calls Tryz.prog 148 #[.int .i64 xs[k],.int .i64 ys[k]] W fun e w'=>e=.returned (.int .i64 (icmp xs[k] ys[k]))/\W=w'):=fun W=>U9 _ _ W
   generalize icmp xs[k] ys[k]=c at *
   go_wp2_with (go_at_call 148;refine(HC.out _).mono ?_;rintro e w' ⟨rfl,rfl⟩)
   go_ret;exact⟨by rw[<-HR.out,HF.out];rfl,rfl⟩
  have HF:Hid (ZP (xs.drop k) (ys.drop k)=1):=by show _=_;rw[List.drop_eq_getElem_cons hx,List.drop_of_length_le (show ys.length<=k by omega),ZP]
  have i3:decide ((ys.length:Int)<=(k:Int))=true:=by simp;omega
  go_wp2
  go_ret;exact⟨by rw[<-HR.out,HF.out];rfl,rfl⟩
 have au:k=xs.length:=by omega
 by_cases hy:k<ys.length
 ·have HF:Hid (ZP (xs.drop k) (ys.drop k)=-1):=by show _=_;rw[List.drop_of_length_le (show xs.length<=k by omega),List.drop_eq_getElem_cons hy,ZP]
  have e1:decide ((xs.length:Int)<(ys.length:Int))=true:=by simp;omega
  clear au
  go_wp2
  go_ret;exact⟨by rw[<-HR.out,HF.out];rfl,rfl⟩
 have HF:Hid (ZP (xs.drop k) (ys.drop k)=0):=by show _=_;rw[List.drop_of_length_le (show xs.length<=k by omega),List.drop_of_length_le (show ys.length<=k by omega),ZP]
 have e1:decide ((xs.length:Int)<(ys.length:Int))=false:=by simp;omega
 clear au
 go_wp2
 go_ret;exact⟨by rw[<-HR.out,HF.out];rfl,rfl⟩
