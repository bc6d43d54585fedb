/- T -/
import Derived.Test.YthpngeboknmllaaGreatQb7c8
set_option linter.unusedVariables false
set_option linter.unusedSimpArgs false
set_option maxHeartbeats 2000000
set_option maxRecDepth 100000
namespace Go.Proofs.YthpngeboknmllaaGreat
open Go.RowKit
structure DU (w wr:World) (lv:Value) (t:Z9) (PL:List YP) (T:Nat->Prop):Prop where
 sub:∀k,T k->Sv w.heap.size lv wr k
 root:T w.heap.size
 lin:Xh wr T
 lt:∀g o b,T g->Pt wr g o b->b<wr.heap.size
 built:WJ wr T (·∈PL) w.heap.size 0 t
 pend:∀x∈PL,T x.1
 free:∀k,T k->∀o,wr.frozen? ⟨k,o,none⟩=false
theorem Pt.of {W W':World} {g o b:Nat} (h:Pt W' g o b) (hc:W'.cell? ⟨g,o,none⟩=W.cell? ⟨g,o,none⟩):Pt W g o b:=by
 obtain⟨x,n,c,h0,h1⟩:=h;exact⟨x,n,c,h0,hc.symm.trans h1⟩
theorem DU.push {w wr w':World} {lv v':Value} {t:Z9} {PL:List YP} {T:Nat->Prop} (hd:DU w wr lv t PL T) (hg:wr.grownBy w' lv.ownBlock) (hv:∀k,v'.ownBlock=some k->lv.ownBlock=some k\/wr.heap.size<=k):DU w w' v' t PL T:=by
 have hc:∀q:Addr,T q.block->w'.cell? q=wr.cell? q:=fun q hq=>World.cell?_of_block (hg.block q.block (hd.sub _ hq).2.1 (hd.sub _ hq).2.2.2)
 refine⟨fun k aa=>?_,hd.root,hd.lin.keep hc,fun g o b h1 h2=>QV (hd.lt g o b h1 (h2.of (hc ⟨g,o,none⟩ h1))) hg.size,hd.built.keep (fun _ h=>h) hc (fun _ h=>h),hd.pend,fun k hk o=>(World.frozen?_of_block (hg.block k (hd.sub _ hk).2.1 (hd.sub _ hk).2.2.2)).trans (hd.free k hk o)⟩;have hk:=hd.sub k aa;exact⟨hk.1,QV hk.2.1 hg.size,hk.2.2.1,fun e=>by
  rcases hv k e.symm with h|h
  ·exact hk.2.2.2 h.symm
  have:=hk.2.1;omega⟩
theorem DU.alloc {w wr:World} {lv:Value} {t:Z9} {PL:List YP} {T:Nat->Prop} (hd:DU w wr lv t PL T) (o:Obj):DU w (wr.alloc o) lv t PL T:=hd.push (World.grownBy_alloc wr o _) (fun k h=>.inl h)
theorem DU.pushed {w wr w':World} {lv v':Value} {t:Z9} {PL:List YP} {T:Nat->Prop} {o:Obj} (hd:DU w wr lv t PL T) (hg:(wr.alloc o).grownBy w' lv.ownBlock) (hv:v'.ownBlock=lv.ownBlock\/v'.ownBlock=some (wr.alloc o).heap.size):DU w w' v' t PL T :=
 (hd.alloc o).push hg (fun k hk=>by
  rcases hv with h|h
  ·exact .inl (h ▸ hk)
  rw[hk] at h;injection h with h;right;omega)
theorem DU.node {w wr W4:World} {e en:TypeId} {lv lv':Value} {t:Z9} {Q:List YP} {x:YP} {g' cap':Nat} {A':Option Addr} {T:Nat->Prop} (hd:DU w wr lv t (Q++[x]) T) (hp:UH w wr (Sv w.heap.size lv wr) x)
  (aB:∀k,lv.ownBlock=some k->k<wr.heap.size) (hbx:w.heap.size+2<=wr.heap.size)
  (hk:∀q:Addr,q.block<wr.heap.size->q≠⟨x.1,x.2.1+3,none⟩->W4.cell? q=wr.cell? q) (ag:lv'.ownBlock=lv.ownBlock) (az:wr.heap.size<=W4.heap.size)
  (hc:W4.cell? ⟨x.1,x.2.1+3,none⟩=some (.slice A' x.2.2.kids.length cap')) (av:x.2.2.kids.length<=cap') (ak:cap'<=maxLen)
  (hg:wr.heap.size<=g') (hA:0<x.2.2.kids.length->A'=some ⟨g',0,none⟩/\g'<W4.heap.size)
  (hf:∀q:Addr,q.block<wr.heap.size->W4.frozen? q=wr.frozen? q) (aC:0<x.2.2.kids.length->∀o,W4.frozen? ⟨g',o,none⟩=false)
  (ah:0<x.2.2.kids.length->∀o b,Pt W4 g' o b->b<w.heap.size):∃T',DU w W4 lv' t (Q++YR g' x.2.2.kids) T':=by
 have ax:=hd.pend x (by simp);have ae:=hd.sub;have au:∀q:Addr,T q.block->q≠⟨x.1,x.2.1+3,none⟩->W4.cell? q=wr.cell? q:=fun q hq aj=>hk q (ae _ hq).2.1 aj
 let T':Nat->Prop:=fun k=>T k\/0<x.2.2.kids.length/\k=g'
 -- what points where
 have hpt:∀g o b,T' g->T' b->Pt W4 g o b->(b=g'/\g=x.1/\o=x.2.1+3)\/(T g/\T b/\Pt wr g o b/\¬(g=x.1/\o=x.2.1+3)):=by
  intro g o b aa af h;have hbh:w.heap.size<=b:=by
   rcases af with h1|⟨_,h1⟩
   ·exact(ae _ h1).1
   omega
  rcases aa with aa|⟨hz,rfl⟩
  ·by_cases he:g=x.1/\o=x.2.1+3
   ·obtain⟨rfl,rfl⟩:=he;left;obtain⟨x1,n,c,h0,h1⟩:=h;rw[hc] at h1;injection h1 with h1
    injection h1 with h1 h2 h3
    have hz:0<x.2.2.kids.length:=by omega
    obtain⟨e1,_⟩:=hA hz;rw[e1] at h1;injection h1 with h1
    injection h1 with h1
    exact⟨h1.symm,rfl,rfl⟩
   have h2:Pt wr g o b:=h.of (au ⟨g,o,none⟩ aa (fun e1=>by injection e1 with e1 e2;exact he ⟨e1,e2⟩));right;refine⟨aa,?_,h2,he⟩;rcases af with h1|⟨_,h1⟩
   ·exact h1
   have:=hd.lt _ _ _ aa h2;omega
  exact absurd (ah hz o b h) (by omega)
 refine⟨T',?_,.inl hd.root,⟨?_,?_⟩,?_,?_,?_,?_⟩
 ·rintro k (hk0|⟨hz,rfl⟩)
  ·have ai:=ae k hk0;exact⟨ai.1,QV ai.2.1 az,ai.2.2.1,by rw[ag];exact ai.2.2.2⟩
  refine⟨by omega,(hA hz).2,by omega,?_⟩;rw[ag];intro e1;have:=aB _ e1.symm;omega
 ·intro g o g2 o2 b aa ay af h1 h2;rcases hpt g o b aa af h1 with ⟨e1,e2,e3⟩|⟨a1,a2,a3,a4⟩
  ·rcases hpt g2 o2 b ay af h2 with ⟨f1,f2,f3⟩|⟨b1,b2,b3,b4⟩
   ·exact⟨by omega,by omega⟩
   have:=hd.lt _ _ _ b1 b3;omega
  rcases hpt g2 o2 b ay af h2 with ⟨f1,f2,f3⟩|⟨b1,b2,b3,b4⟩
  ·have:=hd.lt _ _ _ a1 a3;omega
  exact hd.lin.inj a1 b1 a2 a3 b3
 ·intro g o b aa af h1;rcases hpt g o b aa af h1 with ⟨e1,e2,e3⟩|⟨a1,a2,a3,a4⟩
  ·have:=(ae _ ax).2.1;omega
  exact hd.lin.mono a1 a2 a3
 ·intro g o b aa h;rcases aa with aa|⟨hz,rfl⟩
  ·by_cases he:g=x.1/\o=x.2.1+3
   ·obtain⟨rfl,rfl⟩:=he;obtain⟨x1,n,c,h0,h1⟩:=h;rw[hc] at h1;injection h1 with h1
    injection h1 with h1 h2 h3
    have hz:0<x.2.2.kids.length:=by omega
    obtain⟨e1,e2⟩:=hA hz;rw[e1] at h1;injection h1 with h1
    injection h1 with h1
    omega
   have h2:Pt wr g o b:=h.of (au ⟨g,o,none⟩ aa (fun e1=>by injection e1 with e1 e2;exact he ⟨e1,e2⟩));have:=hd.lt _ _ _ aa h2;omega
  have:=ah hz o b h;omega
 ·have aA:UH w wr T x:=⟨ax,hp.2⟩;refine WJ.step (S':=T') (P':=(·∈Q++YR g' x.2.2.kids)) (g':=g') aA (fun y hy=>?_) (fun k hk=>.inl hk) (fun k hk=>(ae k hk).1) (fun q hq aj=>au q hq aj) hc av ak (fun h=>⟨(hA h).1,.inr ⟨h,rfl⟩⟩) (fun i hi=>List.mem_append_right _ (Sb.2 ⟨i,hi,rfl⟩)) hd.built;rcases List.mem_append.1 hy with hy|hy
  ·exact .inr (List.mem_append_left _ hy)
  exact .inl (List.mem_singleton.1 hy)
 ·intro y hy;rcases List.mem_append.1 hy with hy|hy
  ·exact .inl (hd.pend y (List.mem_append_left _ hy))
  obtain⟨i,hi,rfl⟩:=Sb.1 hy;exact .inr ⟨by omega,rfl⟩
 rintro k (hk0|⟨hz,rfl⟩) o
 ·exact(hf ⟨k,o,none⟩ (ae k hk0).2.1).trans (hd.free k hk0 o)
 exact aC hz o
theorem VR {w W:World} {ts:List Z9} {cs:List Value} {g:Nat} {T:TypeId} (hg:W.heap[g]?=some (.cells cs.toArray T (0,0))) (hl:ZK Z7 w (Lt w.heap.size) ts cs) (o b:Nat) (h:Pt W g o b):b<w.heap.size:=by
 obtain⟨x,n,c,h0,h1⟩:=h;rw[cell_of_row W g o cs.toArray T (0,0) hg] at h1
 replace h1:cs[o]?=some (.slice (some ⟨b,x,none⟩) n c):=by simpa using h1
 clear hg;induction ts generalizing cs o with
 |nil=>simp[ZK] at hl;subst hl;simp at h1
 |
  cons t ts ih =>
  obtain⟨a,r,rfl,hR,hr⟩:=hl;obtain⟨v,rfl,_,_,_,A,cap,rs,rfl,_,_,ae,ag⟩:=YI.1 hR;by_cases ho:o<4
  ·have:o=3:=by
    match o,ho,h1 with
    |0,_,h1=>simp at h1
    |1,_,h1=>simp at h1
    |2,_,h1=>simp at h1
    |3,_,h1=>rfl
   subst this;simp only[List.cons_append,List.nil_append,List.getElem?_cons_succ,List.getElem?_cons_zero,Option.some.injEq,Value.slice.injEq] at h1;obtain⟨rfl,h2,h3⟩:=h1;have aa:=ag.len;obtain⟨g1,o1,e,af,_⟩:=ae (by rw[aa];exact Nat.mul_pos (by omega) Z7.pos);cases e;exact af
  have h2:r[o-4]?=some (.slice (some ⟨b,x,none⟩) n c):=by
   rw[List.getElem?_append_right (by simp;omega)] at h1;simpa using h1
  exact ih hr (o-4) h2
theorem DU.start {w W0:World} {lv:Value} {t:Z9} {A:Option Addr} {cap:Nat} (hv:Z8 Z7 w (Lt w.heap.size) t.kids (.slice A t.kids.length cap)) {e en:TypeId} (hd:DI w W0 e en lv t [(w.heap.size,0,t)] [(w.heap.size,0,t)])
  (aa:W0.heap[w.heap.size]?=some (.cells #[.int .i64 t.kind,.string t.text,.int .i64 t.cols,.slice A t.kids.length cap] en (0,0))):DU w W0 lv t [(w.heap.size,0,t)] (·=w.heap.size):=by
 have hpt:∀o b,Pt W0 w.heap.size o b->b<w.heap.size:=by
  intro o b h;refine VR (w:=w) (ts:=[t]) (cs:=[.int .i64 t.kind,.string t.text,.int .i64 t.cols,.slice A t.kids.length cap]) aa ?_ o b h;have ae:=(hd.pend _ (List.mem_singleton_self _)).2.2.1;exact ZK.single (E:=Z7) (YI.2 ⟨_,rfl,ae.1,ae.2.1,ae.2.2,hv⟩)
 refine⟨fun k hk=>by subst hk;exact(hd.pend _ (List.mem_singleton_self _)).1,rfl,⟨?_,?_⟩,?_,.pend _ _ _ (List.mem_singleton_self _),fun x hx=>by rw[List.mem_singleton.1 hx],fun k hk o=>by subst hk;simp[World.frozen?,aa]⟩
 ·rintro g o g2 o2 b rfl rfl rfl h1 h2;exact absurd (hpt _ _ h1) (Nat.lt_irrefl _)
 ·rintro g o b rfl rfl h1;exact absurd (hpt _ _ h1) (Nat.lt_irrefl _)
 rintro g o b rfl h1;have:=hpt _ _ h1;have:=hd.box;omega
def Tp (w:World) (t:Z9) (e:Ending) (w':World):Prop :=
 ∃
  v T,e=.returned (.agg #[.int .i64 t.kind,.string t.text,.int .i64 t.cols,v])/\Below w.heap.size w w'/\(∀k,T k->w.heap.size<=k/\k<w'.heap.size)/\Z8 Z7 w' T t.kids v/\Xh w' T/\(∀k,T k->∀o,w'.frozen? ⟨k,o,none⟩=false) /\
  ∀g o r x n c,v=.slice (some ⟨r,x,none⟩) n c->0<n->T g->¬Pt w' g o r
theorem DU.result {w wr:World} {lv:Value} {t:Z9} {T:Nat->Prop} {v:Value} (hd:DU w wr lv t [] T) (hc:wr.cell? ⟨w.heap.size,3,none⟩=some v) :
  ∃T':Nat->Prop,(∀k,T' k->w.heap.size<k/\k<wr.heap.size/\k≠w.heap.size+1)/\Z8 Z7 wr T' t.kids v/\Xh wr T'/\(∀k,T' k->∀o,wr.frozen? ⟨k,o,none⟩=false)/\∀g o r x n c,v=.slice (some ⟨r,x,none⟩) n c->0<n->T' g->¬Pt wr g o r:=by
 obtain⟨u,hn,_,hr⟩:=hd.built.reads (fun x h=>by cases h);have ae:=hn.2.2.2;rw[Nat.zero_add] at ae;obtain rfl:u=v:=Option.some.inj (ae.symm.trans hc);have ag:=zFq hr hc;refine⟨fun k=>T k/\w.heap.size<k,fun k hk=>⟨hk.2,(hd.sub k hk.1).2.1,(hd.sub k hk.1).2.2.1⟩,ag.keep (fun _ _=>rfl) (fun k hk=>⟨hk.mem,hk.gt hd.lin hd.root⟩),hd.lin.sub (fun k hk=>hk.1),fun k hk o=>hd.free k hk.1 o,?_⟩;rintro g o r x n c rfl hn0 ⟨hg1,hg2⟩ hp;have af:Pt wr w.heap.size 3 r:=⟨x,n,c,hn0,hc⟩;have ah:T r:=by
  obtain⟨A,cap,rs,e,k1,k2,k3,k4⟩:=hr;cases e;have aa:=k4.len;obtain⟨g1,o1,e,hT,_⟩:=k3 (by rw[aa];exact Nat.mul_pos hn0 Z7.pos);cases e;exact hT
 have:=(hd.lin.inj hg1 hd.root ah hp af).1;omega
theorem DU.copied {w wr WM W4:World} {e en:TypeId} {lv lv':Value} {t:Z9} {Q:List YP} {xg xo:Nat} {xt:Z9} {u:Value} {cs:List Value} {cur:Array Value} {T:Nat->Prop} (hu:DU w wr lv t (Q++[(xg,xo,xt)]) T) (hd:DI w wr e en lv t (Q++[(xg,xo,xt)]) (Q++[(xg,xo,xt)]))
  (aa:lv'.ownBlock=lv.ownBlock) (hz:0<xt.kids.length) (hlt:wr.heap.size<WM.heap.size)
  (hc:(WM.setCell ⟨xg,xo+3,none⟩ (.slice (some ⟨wr.heap.size,0,none⟩) xt.kids.length xt.kids.length)).heap[wr.heap.size]?=some (.cells cur en (0,0))) (hl:ZK Z7 w (Lt w.heap.size) xt.kids cs) (n3:wr.cell? ⟨xg,xo+3,none⟩=some u)
  (h2:(wr.setCell ⟨xg,xo+3,none⟩ (.slice none 0 0)).grownBy WM none) (hk:xt.kids.length<=1000000)
  (hW:W4=(WM.setCell ⟨xg,xo+3,none⟩ (.slice (some ⟨wr.heap.size,0,none⟩) xt.kids.length xt.kids.length)).setRow wr.heap.size cs.toArray):∃T',DU w W4 lv' t (Q++YR wr.heap.size xt.kids) T':=by
 have hp:=hd.pend (xg,xo,xt) (by simp);obtain⟨⟨aj,ae,ai,ah⟩,_⟩:=hp
 dsimp only at aj ae ai ah
 have ag:(wr.setCell ⟨xg,xo+3,none⟩ (.slice none 0 0)).heap.size=wr.heap.size:=by simp[World.setCell]
 have m3:WM.cell? ⟨xg,xo+3,none⟩=some (.slice none 0 0):=h2.cell (World.cell?_setCell_same _ _ _ n3) (by simp);have hG:=setRow_heap _ _ cur cs.toArray _ _ hc;rw[<-hW] at hG;have c4:W4.cell? ⟨xg,xo+3,none⟩=some (.slice (some ⟨wr.heap.size,0,none⟩) xt.kids.length xt.kids.length):=by
  rw[hW,cell_setRow_other _ _ _ _ (by exact Nat.ne_of_lt ae)];exact World.cell?_setCell_same _ _ _ m3
 refine hu.node (e:=e) (en:=en) (x:=(xg,xo,xt)) (g':=wr.heap.size) (cap':=xt.kids.length) (A':=some ⟨wr.heap.size,0,none⟩) (hd.pend (xg,xo,xt) (by simp)) (fun k hk=>(hd.stack.lt k hk).2) hd.box (fun q hq af=>?_) aa ?_ c4 (QT _) (by simp[maxLen];omega) (QT _) (fun _=>⟨rfl,(Array.getElem?_eq_some_iff.1 hG).1⟩) (fun q hq=>by rw[hW,World.frozen?_of_block (setRow_other _ _ _ _ (Nat.ne_of_lt hq)),World.frozen?_setCell,World.frozen?_of_block (h2.block _ (by rw[ag];exact hq) (by simp)),World.frozen?_setCell]) (fun _ o=>by simp[World.frozen?,hG]) (fun _ o b h=>VR hG hl o b h)
 ·rw[hW,cell_setRow_other _ _ _ _ (Nat.ne_of_lt hq),World.cell?_setCell_other _ _ _ _ (Ne.symm af),World.cell?_of_block (h2.block _ (by rw[ag];exact hq) (by simp)),World.cell?_setCell_other _ _ _ _ (Ne.symm af)]
 rw[hW];simp[World.setCell];omega
theorem zDt (t:Z9) (A:Option Addr) (cap:Nat) (w:World) (hv:Z8 Z7 w (Lt w.heap.size) t.kids (.slice A t.kids.length cap)) (bC:Zt t) (aD:ZW t<=1000000) :
  Calls Tryz.prog 95 #[.agg #[.int .i64 t.kind,.string t.text,.int .i64 t.cols,.slice A t.kids.length cap]] w (Tp w t):=by
 have HS:=hid (DI.start w 123 24 t A cap hv bC _ rfl);have dJ:=hid (DU.start hv HS.out (by rw[Below.heap_alloc _ _ _ (by simp;omega),Below.heap_alloc _ _ _ (by simp)];exact heap_alloc_new w _));have dM:=hid aD;clear hv bC aD;go_enter Tryz.func95,Tryz.ntmps95
 go_wp2_with fail
 generalize (((w.alloc (.cells #[.int .i64 t.kind,.string t.text,.int .i64 t.cols,.slice A t.kids.length cap] 24)).alloc (.cells #[.int .i64 0,.string ⟨#[]⟩,.int .i64 0,.slice none 0 0] 24)).alloc (.cells #[.pointer (some ⟨w.heap.size,0,none⟩)] 123))=W0 at *
 go_loopg [3] (ZW t) (fun k cZ wr=>∃(lv:Value) (P:List YP),lv=cZ/\DI w wr 123 24 lv t P P/\pcnt P=k/\k<=1000000/\∃T,DU w wr lv t P T)
 case atStart=>exact⟨_,_,rfl,HS.out,by simp[pcnt],dM.out,_,dJ.out⟩
 obtain⟨lv,P,rfl,hd,hk,hkm,T,hu⟩:=hrel;have HU:=hid hu;clear hu;rcases List.eq_nil_or_concat P with rfl|⟨Q,x,rfl⟩
 ·obtain⟨v,hn,bB⟩:=hd.result;obtain⟨A1,c1,rfl⟩:=bB.form;obtain⟨T2,bJ,hr,au,ag,ak⟩:=HU.out.result hn.2.2.2;have ay:=hid ag;have aW:=hid au;have aS:=hid ak;have aT:=hid bJ;clear bB au ak bJ HU ag;have dn:∃B1 d1,lv=.slice B1 0 d1:=by
   rcases hd.stack.2 with ⟨rfl,_⟩|⟨g,cap,aQ,rfl,_⟩
   · exact⟨_,_,rfl⟩
   exact⟨_,_,rfl⟩
  obtain⟨B1,d1,rfl⟩:=dn;obtain⟨n0,n1,n2,n3⟩:=hn;simp only[Nat.zero_add] at n1 n2 n3;have ae:=hd.res;have aM:w.heap.size+1<wr.heap.size:=by have:=hd.box;omega
  have HB:=hid hd.below;have HR:=hid hr;have r0:wr.cell? ⟨w.heap.size+1,0,none⟩=some (.int .i64 0)/\wr.frozen? ⟨w.heap.size+1,0,none⟩=false:=by constructor<;>simp[World.cell?,World.frozen?,ae]
  have r1:wr.cell? ⟨w.heap.size+1,1,none⟩=some (.string ⟨#[]⟩)/\wr.frozen? ⟨w.heap.size+1,1,none⟩=false:=by constructor<;>simp[World.cell?,World.frozen?,ae]
  have r2:wr.cell? ⟨w.heap.size+1,2,none⟩=some (.int .i64 0)/\wr.frozen? ⟨w.heap.size+1,2,none⟩=false:=by constructor<;>simp[World.cell?,World.frozen?,ae]
  have r3:wr.cell? ⟨w.heap.size+1,3,none⟩=some (.slice none 0 0)/\wr.frozen? ⟨w.heap.size+1,3,none⟩=false:=by constructor<;>simp[World.cell?,World.frozen?,ae]
  obtain⟨r0,f0⟩:=r0;obtain⟨r1,f1⟩:=r1;obtain⟨r2,f2⟩:=r2;obtain⟨r3,f3⟩:=r3;clear hd ae hr hk
  go_wp2_with fail
  have q0:((((wr.setCell ⟨w.heap.size+1,0,none⟩ (.int .i64 t.kind)).setCell ⟨w.heap.size+1,1,none⟩ (.string t.text)).setCell ⟨w.heap.size+1,2,none⟩ (.int .i64 t.cols)).setCell ⟨w.heap.size+1,3,none⟩ (.slice A1 t.kids.length c1)).cell? ⟨w.heap.size+1,0,none⟩=some (.int .i64 t.kind):=by go_simp
  have q1:((((wr.setCell ⟨w.heap.size+1,0,none⟩ (.int .i64 t.kind)).setCell ⟨w.heap.size+1,1,none⟩ (.string t.text)).setCell ⟨w.heap.size+1,2,none⟩ (.int .i64 t.cols)).setCell ⟨w.heap.size+1,3,none⟩ (.slice A1 t.kids.length c1)).cell? ⟨w.heap.size+1,1,none⟩=some (.string t.text):=by go_simp
  have q2:((((wr.setCell ⟨w.heap.size+1,0,none⟩ (.int .i64 t.kind)).setCell ⟨w.heap.size+1,1,none⟩ (.string t.text)).setCell ⟨w.heap.size+1,2,none⟩ (.int .i64 t.cols)).setCell ⟨w.heap.size+1,3,none⟩ (.slice A1 t.kids.length c1)).cell? ⟨w.heap.size+1,2,none⟩=some (.int .i64 t.cols):=by go_simp
  have q3:((((wr.setCell ⟨w.heap.size+1,0,none⟩ (.int .i64 t.kind)).setCell ⟨w.heap.size+1,1,none⟩ (.string t.text)).setCell ⟨w.heap.size+1,2,none⟩ (.int .i64 t.cols)).setCell ⟨w.heap.size+1,3,none⟩ (.slice A1 t.kids.length c1)).cell? ⟨w.heap.size+1,3,none⟩=some (.slice A1 t.kids.length c1):=by go_simp
  have dD:=(((HB.out.setCell (p:=⟨w.heap.size+1,0,none⟩) (Nat.le_succ _) (.int .i64 t.kind)).setCell (p:=⟨w.heap.size+1,1,none⟩) (Nat.le_succ _) (.string t.text)).setCell (p:=⟨w.heap.size+1,2,none⟩) (Nat.le_succ _) (.int .i64 t.cols)).setCell (p:=⟨w.heap.size+1,3,none⟩) (Nat.le_succ _) (.slice A1 t.kids.length c1);have aN:∀q:Addr,T2 q.block->((((wr.setCell ⟨w.heap.size+1,0,none⟩ (.int .i64 t.kind)).setCell ⟨w.heap.size+1,1,none⟩ (.string t.text)).setCell ⟨w.heap.size+1,2,none⟩ (.int .i64 t.cols)).setCell ⟨w.heap.size+1,3,none⟩ (.slice A1 t.kids.length c1)).cell? q=wr.cell? q:=fun q hq=>by
   have h9:=(aT.out _ hq).2.2;rw[UT _ h9,UT _ h9,UT _ h9,UT _ h9]
  have dx:∀k,T2 k->∀o,((((wr.setCell ⟨w.heap.size+1,0,none⟩ (.int .i64 t.kind)).setCell ⟨w.heap.size+1,1,none⟩ (.string t.text)).setCell ⟨w.heap.size+1,2,none⟩ (.int .i64 t.cols)).setCell ⟨w.heap.size+1,3,none⟩ (.slice A1 t.kids.length c1)).frozen? ⟨k,o,none⟩=false:=fun k hk o=>by
   rw[World.frozen?_setCell,World.frozen?_setCell,World.frozen?_setCell,World.frozen?_setCell];exact ay.out k hk o
  have aK:((((wr.setCell ⟨w.heap.size+1,0,none⟩ (.int .i64 t.kind)).setCell ⟨w.heap.size+1,1,none⟩ (.string t.text)).setCell ⟨w.heap.size+1,2,none⟩ (.int .i64 t.cols)).setCell ⟨w.heap.size+1,3,none⟩ (.slice A1 t.kids.length c1)).heap.size=wr.heap.size:=by simp[World.setCell]
  generalize ((((wr.setCell ⟨w.heap.size+1,0,none⟩ (.int .i64 t.kind)).setCell ⟨w.heap.size+1,1,none⟩ (.string t.text)).setCell ⟨w.heap.size+1,2,none⟩ (.int .i64 t.cols)).setCell ⟨w.heap.size+1,3,none⟩ (.slice A1 t.kids.length c1))=W5 at *;exact bodyPost_ret (v:=.agg #[.int .i64 t.kind,.string t.text,.int .i64 t.cols,.slice A1 t.kids.length c1]) (by simp[results,Tryz.results95,go_sem,q0,q1,q2,q3]) rfl ⟨_,T2,rfl,dD,fun k hk=>⟨Nat.le_of_lt (aT.out k hk).1,by rw[aK];exact(aT.out k hk).2.1⟩,HR.out.keep aN (fun _ h=>h),aW.out.keep aN,dx,fun g o r x n c e h0 hg hp=>aS.out g o r x n c e h0 hg (hp.of (aN ⟨g,o,none⟩ hg))⟩
 rw[List.concat_eq_append] at hd hk HU;obtain⟨g,cp,rfl,hg1,hg2,dA,dz,aD,bu⟩:=hd.stack.top;have bG:=hd.frz x (by simp);have hx:=hd.pend x (by simp);obtain⟨xg,xo,xt⟩:=x;obtain⟨⟨aJ,aI,bg,aH⟩,aO,ah,v,⟨n0,n1,n2,n3⟩,az⟩:=hx
 dsimp only [WP] at bG aJ aI bg aH aO ah n0 n1 n2 n3 az aD
 obtain⟨A1,c1,rfl⟩:=az.form;have dw:Q.length<=1000000:=by have:=zKe (Q++[(xg,xo,xt)]);simp at this;omega
 have bD:xt.kids.length<=1000000:=by
  have h1:=Yz xt;rw[Sj] at hk;simp only[pcnt] at hk;omega
 have HD:=hid hd;have aU:=hid bu;have dF:=hid az;have HK:=hid hk;have HAL:=hid aO;have HOK:=hid ah;have bL:=hid aH;clear hd bu az hk aO ah aH;have i0:(0:Int)<=(Q.length:Int):=by omega
 have i1:(Q.length:Int)<(Q.length:Int)+1:=by omega
 have i2:(Q.length:Int)<=(cp:Int):=by omega
 have i3:decide ((0:Int)<(Q.length:Int)+1)=true:=by rw[decide_eq_true_eq];omega
 rcases Nat.eq_zero_or_pos xt.kids.length with hz|hz
 ·have df:=hid hz;rw[hz] at n3
  go_wp2_with (refine zEy rfl (.tmp 41) (.tmp 42) 22 rfl 24 4 Tryz.underlying22 zHh A1 c1 0 rfl rfl ?_)
  go_loop [3,49] (fun l i=>l=.slice (some ⟨g,0,none⟩) Q.length cp/\i=.int .i64 0) (fun _ _=>0)
  case atStart=>exact⟨rfl,rfl⟩
  obtain⟨rfl,rfl⟩:=hrel;have aa:xt.kids=[]:=List.eq_nil_of_length_eq_zero df.out;have dh:pcnt Q<gk:=by have:=HK.out;rw[Sj] at this;simp only[pcnt] at this;have:=Yz xt;omega
  go_wp2_with fail
  go_roundg (pcnt Q)
  case measure=>exact dh
  case rel =>
   refine⟨_,Q,rfl,?_,rfl,by omega,?_⟩;rotate_left
   · obtain⟨T',h⟩:=HU.out.node (W4:=wr.setCell ⟨xg,xo+3,none⟩ (.slice none 0 0)) (e:=123) (en:=24) (lv':=.slice (some ⟨g,0,none⟩) Q.length cp) (g':=wr.heap.size) (cap':=0) (A':=none) (HD.out.pend (xg,xo,xt) (by simp)) (fun k hk=>(HD.out.stack.lt k hk).2) HD.out.box (fun q _ aL=>World.cell?_setCell_other _ _ _ _ (Ne.symm aL)) rfl (by simp[World.setCell]) (by rw[aa];exact World.cell?_setCell_same _ _ _ n3) (by rw[aa];exact QT _) (QU _) (QT _) (by rw[aa];exact fun h=>absurd h (Nat.lt_irrefl 0)) (fun q _=>World.frozen?_setCell _ _ _ _) (by rw[aa];exact fun h=>absurd h (Nat.lt_irrefl 0)) (by rw[aa];exact fun h=>absurd h (Nat.lt_irrefl 0));rw[aa] at h;exact⟨T',by simpa[YR,Xk] using h⟩
   have h:=HD.out.node (W4:=wr.setCell ⟨xg,xo+3,none⟩ (.slice none 0 0)) (lv':=.slice (some ⟨g,0,none⟩) Q.length cp) (g':=wr.heap.size) (cap':=0) (A':=none) (fun q _ aL=>World.cell?_setCell_other _ _ _ _ (Ne.symm aL)) (ownsRow_setCell_other aU.out (by intro e;exact bL.out e.symm) _) rfl (HD.out.below.setCell aJ _) (by simp[World.setCell]) (fun q _=>World.frozen?_setCell _ _ _ _) (by rw[aa];exact fun h=>absurd h (Nat.lt_irrefl 0)) (Below.heap_setCell wr _ _ _ (by exact Ne.symm bg)) (by rw[aa];exact World.cell?_setCell_same _ _ _ n3) (by rw[aa];exact QT _) (QU _) (QT _) (by rw[aa];exact fun h=>absurd h (Nat.lt_irrefl 0)) (by rw[aa];exact fun i hi=>absurd hi (Nat.not_lt_zero _));rw[aa] at h;simpa[YR,Xk] using h
 obtain⟨A2,c2,cs,e2,dC,dB,aA,aB⟩:=dF.out;injection e2 with e3 e4 e5
 subst e3;subst e5;have bI:cs.length=xt.kids.length*4:=by have:=aB.len;simpa[Z7,Nat.mul_comm] using this
 obtain⟨ad,rfl⟩:=aA.some_ (by omega);have aP:ad.block<w.heap.size:=by
  obtain⟨g0,o0,h1,h2,_⟩:=aA (by omega);cases h1;exact h2
 have bA:=hid (aA.add ad rfl);have bQ:=hid aB;have dE:=hid aB.one;have av:=hid bI;have aY:=hid hz;have i4:decide ((0:Int)<(xt.kids.length:Int))=true:=by rw[decide_eq_true_eq];omega
 obtain⟨ni,cO,cK,cB,cu⟩:=zF5;clear aA aB bI hz
 go_wp2_with first
  |(
    refine wpList_make_full _ rfl (.tmp 34) (.tmp 34) 22 rfl (wr.setCell ⟨xg,xo+3,none⟩ (.slice none 0 0)).heap.size 24 ni _ 4 Tryz.underlying22 cO cK cB .i64 .i64 _ _ xt.kids.length rfl rfl rfl rfl (by rw[cu];omega) (by simp[maxLen];omega) (QT _) ?_;intro WM aj ai;obtain⟨m3,mf,aQ,af,bR,bN⟩:=zJi (c:=0) HD.out.below aJ aI n3 bG rfl aj ai av.out aP bA.out;have bP:=hid aj;have aV:=hid ai;have ax:Hid (wr.heap.size<WM.heap.size):=by
      rcases bP.out.2 with ⟨h,_⟩|⟨g0,c0,aQ,e1,k2,k3,k4⟩
      ·cases h
      have h9:=(Array.getElem?_eq_some_iff.1 k3).1;have h8:(wr.setCell ⟨xg,xo+3,none⟩ (.slice none 0 0)).heap.size=wr.heap.size:=by simp[World.setCell]
      show wr.heap.size<WM.heap.size;omega
    clear aj ai)
  |(
    refine zE3 rfl (.tmp 41) (.tmp 42) 22 rfl 24 4 Tryz.underlying22 zHh wr.heap.size xt.kids.length ad c1 rfl rfl aQ 24 cs af.out av.out bN.out bR.out dE.out ?_;obtain⟨W4,aF⟩:∃W4,W4=(WM.setCell ⟨xg,xo+3,none⟩ (.slice (some ⟨wr.heap.size,0,none⟩) xt.kids.length xt.kids.length)).setRow wr.heap.size cs.toArray:=⟨_,rfl⟩;rw[<-aF];obtain⟨c4,bH⟩:=HD.out.copied (c1:=0) (lv':=.slice (some ⟨g,0,none⟩) Q.length cp) aU.out rfl n3 aV.out aY.out bD ax.out af.out bQ.out aF;have dL:=hid bH;have bn:=HU.out.copied (lv':=.slice (some ⟨g,0,none⟩) Q.length cp) HD.out rfl aY.out ax.out af.out bQ.out n3 aV.out bD aF;have dI:=hid bn;clear aF bH bn)
 have aR:=hid (show some xg≠(Value.slice (some ⟨g,0,none⟩) Q.length cp).ownBlock from bL.out);clear HU HD bP aV ax af bR bN aU m3 mf n0 n1 n2 aI bA;generalize wr.heap.size=G at *
 go_loopw [3,49] (fun l i aG=>∃j:Nat,j<=xt.kids.length/\i=.int .i64 j/\DI w aG 123 24 l t (Q++(YR G xt.kids).take j) (Q++YR G xt.kids)/\(∃T,DU w aG l t (Q++YR G xt.kids) T)/\aG.cell? ⟨xg,xo+3,none⟩=some (.slice (some ⟨G,0,none⟩) xt.kids.length xt.kids.length)/\some xg≠l.ownBlock) (fun _ i _=>xt.kids.length-(intOf i).toNat)
 case atStart=>exact⟨0,QU _,rfl,by simpa using dL.out,dI.out,c4,aR.out⟩
 obtain⟨j,hj,rfl,aC,⟨T4,bi⟩,cj,aZ⟩:=hrel;have bM:=hid bi;clear bi;have aX:=hid aC;have bK:=hid aZ;rcases Nat.lt_or_ge j xt.kids.length with aM|hge
 ·have i5:decide ((j:Int)<(xt.kids.length:Int))=true:=by rw[decide_eq_true_eq];omega
  have i6:(0:Int)<=(j:Int):=by omega
  have i7:(j:Int)<(xt.kids.length:Int):=by omega
  have ax:=hid aM;have bz:=hid (World.ownsRow.alloc aC.stack (.cells #[.pointer (some ⟨G,j*4,none⟩)] 123));rw[show (Q++(YR G xt.kids).take j).length=Q.length+j by simp[Rl];omega] at bz;obtain⟨pi,bZ,bY,bW,bU⟩:=info_parts zP1;clear aC aM aZ
  go_wp2_with first
   |(
      refine UG _ rfl (.tmp 52) (.tmp 59) 151 rfl (w.heap.size+2) 123 pi _ 1 8 Tryz.underlying151 bZ bY bW bU rfl (Nat.succ_pos 0) _ (Q.length+j) _ rfl bz.out (fun _=>True) _ 1 1 [.pointer (some ⟨G,j*4,none⟩)] rfl rfl (zLg _ _ _ _ rfl) (by intro u hu;simp at hu;subst hu;rfl) (by unfold maxLen;omega) (by omega) (by have:=aX.out.box;simp;omega) ?_;intro v' w' h3 h4 h5;have HP:=hid (DI.pushed aX.out ax.out rfl h3 h4 h5);have dK:=hid (DU.pushed bM.out h4 h5);have dH:=hid (zHu h4 cj bK.out);have dG:=hid (zJc h5 cj bK.out);clear h3 h4 h5)
  go_roundw
  case rel=>exact⟨j+1,by omega,by go_num,HP.out,⟨_,dK.out⟩,dH.out,dG.out⟩
  case measure=>simp[intOf];omega
 obtain rfl:j=xt.kids.length:=by omega
 have i5:decide ((xt.kids.length:Int)<(xt.kids.length:Int))=false:=by rw[decide_eq_false_iff_not];omega
 clear aC
 go_wp2_with fail
 have dm:pcnt (Q++YR G xt.kids)<gk:=by
  have h1:=HK.out;rw[Sj] at h1 ⊢;rw[YR,zH3];simp only[pcnt] at h1;rw[XG] at h1;omega
 go_roundg (pcnt (Q++YR G xt.kids))
 case measure=>exact dm
 case rel =>
  refine⟨_,Q++YR G xt.kids,rfl,?_,rfl,by omega,_,bM.out⟩;have h:=aX.out;rw[List.take_of_length_le (by rw[Rl];exact QT _)] at h;exact h
