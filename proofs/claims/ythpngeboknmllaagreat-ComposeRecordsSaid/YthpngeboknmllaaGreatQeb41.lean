/- T -/
import Derived.Test.YthpngeboknmllaaGreatQc901
import Derived.Test.YthpngeboknmllaaGreatQ2157
import Derived.Test.YthpngeboknmllaaGreatQb243
import Derived.Deep.LoopGhost
import Derived.RangeFuncNested
import Derived.RangeFuncBound
import Derived.RangeFuncCalls
import Derived.RangeFuncLeaves
set_option linter.unusedVariables false
set_option linter.unusedSimpArgs false
set_option maxHeartbeats 2000000
set_option maxRecDepth 100000
namespace Go.Proofs.YthpngeboknmllaaGreat
open Go.RowKit
theorem Xw (t:Z9):ZR t=1+ZQ t.kids:=by cases t;rfl
theorem zFu:(ts:List Z9)->(i:Nat)->(k:Z9)->(hi:i<ts.length)->ZQ (ts.set i k)+ZR ts[i]=ZQ ts+ZR k
 |t::ts,0,k,_=>by simp[ZQ];omega
 |
  t::ts,i+1,k,hi=>by
  have:=zFu ts i k (by simpa using hi);simp only[List.set_cons_succ,ZQ,List.getElem_cons_succ];omega
theorem zEm (t:Z9) (i:Nat) (k:Z9) (X:Nat) (h:∀hi:i<t.kids.length,ZR k<=ZR t.kids[i]+X):ZR (Y3 t i k)<=ZR t+X:=by
 rw[Xw,Xw t];show 1+ZQ (t.kids.set i k)<=_;rcases Nat.lt_or_ge i t.kids.length with hi|hi
 ·have h1:=zFu t.kids i k hi;have h2:=h hi;omega
 rw[List.set_eq_of_length_le hi];omega
theorem TQ {t:Z9} {i:Int} (hi:i.toNat<t.kids.length):ZZ t i=t.kids[i.toNat]:=by
 unfold ZZ;rw[List.getD_eq_getElem?_getD,List.getElem?_eq_getElem hi];rfl
theorem zLd:(p:List Int)->(t:Z9)->(l:List Z9)->ZR (ZV t p l)<=ZR t+(ZQ l+1)
 |[],t,l=>by simp only[ZV,Z7,ZR];omega
 |[_],t,l=>by simp only[ZV,Z7,ZR];omega
 |
  i::k::p,t,l=>by
  rw[ZV];refine zEm _ _ _ _ fun hi=>?_
  rw[TQ hi];refine zEm _ _ _ _ fun hk=>?_
  rw[TQ hk];exact zLd p _ l
theorem zD4 (ts:List Z9) (k:Nat):ZQ (ts.drop k)<=ZQ ts:=by
 have h:=SC (ts.take k) (ts.drop k);rw[List.take_append_drop] at h;omega
theorem zDm (l:List Z9) (a b:Nat) (bs:List Z9):ZQ (Zn l a b bs)<=2*ZQ l+ZQ bs:=by
 unfold Zn;rw[SC,SC];have h1:=Xx l a;have h2:=zD4 l b;omega
theorem zGq (l:List Z9) (a:Nat):ZR (l.getD a ZN)<=ZQ l+1:=by
 rw[List.getD_eq_getElem?_getD];rcases Nat.lt_or_ge a l.length with h|h
 ·rw[List.getElem?_eq_getElem h];have h1:=WV h;have h2:=Xx l (a+1);show ZR l[a]<=_;omega
 rw[List.getElem?_eq_none h];show ZR ZN<=_;have:ZR ZN=1:=rfl;omega
theorem zQb (t:Z9) (i:Int):ZQ (ZZ t i).kids<=ZR t:=by
 have h:=zGq t.kids i.toNat;have h2:=Xw (t.kids.getD i.toNat ZN);have h3:=Xw t;show ZQ (t.kids.getD i.toNat ZN).kids<=_;omega
theorem zMa (l:List Z9) (op:ZL):ZQ (ZH l op).1<=4*ZQ l+ZQ op.nodes+4:=by
 unfold ZH;split
 ·exact Qj _
 split
 ·have:=zDm l op.at_.toNat op.at_.toNat op.nodes;show ZQ (Zn _ _ _ _)<=_;omega
 split
 ·split
  ·have:=zDm l op.at_.toNat (op.at_+op.nodes.length).toNat [];have h0:ZQ ([]:List Z9)=0:=rfl;show ZQ (Zn _ _ _ _)<=_;omega
  exact Qj _
 split
 ·have h1:=zDm l op.at_.toNat (op.at_+op.n).toNat [Zj (op.nodes.headD ZN) op.slot.toNat ((l.take (op.at_+op.n).toNat).drop op.at_.toNat)];have h2:ZR (Zj (op.nodes.headD ZN) op.slot.toNat ((l.take (op.at_+op.n).toNat).drop op.at_.toNat))<=ZR (op.nodes.headD ZN)+(ZQ l+1):=by
   refine zEm _ _ _ _ fun hi=>?_
   have h3:=zD4 (l.take (op.at_+op.n).toNat) op.at_.toNat;have h4:=Xx l (op.at_+op.n).toNat;simp only[Z7,ZR];omega
  have h5:ZR (op.nodes.headD ZN)<=ZQ op.nodes+1:=by
   cases op.nodes with
   |nil=>exact Qi _
   |cons x xs=>simp only[List.headD_cons,ZQ];omega
  have h6:∀x:Z9,ZQ [x]=ZR x:=fun x=>rfl
  rw[h6] at h1;show ZQ (Zn _ _ _ _)<=_;omega
 split
 ·split
  ·exact Qj _
  have h1:=zDm l op.at_.toNat (op.at_+1).toNat (ZZ (l.getD op.at_.toNat ZN) op.slot).kids;have h2:=zQb (l.getD op.at_.toNat ZN) op.slot;have h3:=zGq l op.at_.toNat;show ZQ (Zn _ _ _ _)<=_;omega
 split
 ·have h1:=zDm l op.at_.toNat (op.at_+1).toNat [.mk (l.getD op.at_.toNat ZN).kind op.text (l.getD op.at_.toNat ZN).cols (l.getD op.at_.toNat ZN).kids];have h6:ZQ [Z9.mk (l.getD op.at_.toNat ZN).kind op.text (l.getD op.at_.toNat ZN).cols (l.getD op.at_.toNat ZN).kids]=ZR (l.getD op.at_.toNat ZN):=by
   rw[Xw (l.getD op.at_.toNat ZN)];rfl
  have h3:=zGq l op.at_.toNat;rw[h6] at h1;show ZQ (Zn _ _ _ _)<=_;omega
 exact Qj _
theorem zO2 (t:Z9):1<=ZR t:=by rw[Xw];omega
theorem SV:(t:Z9)->(p:List Int)->ZR (ZP t p).1<=ZR t
 |t,[]=>by simp[ZP]
 |t,[_]=>by simp[ZP]
 |
  t,i::k::p=>by
  have hz:ZR ZN<=ZR t:=zO2 t;rw[ZP];split
  ·rename_i hi;split
   ·rename_i hk;have h0:=SV ((t.kids[i.toNat]'hi.2).kids[k.toNat]'hk.2) p;have e1:ZR t.kids[i.toNat]<=ZR t:=by
     rw[Xw t];have:=WV hi.2;have:=Xx t.kids (i.toNat+1);omega
    have e2:ZR t.kids[i.toNat].kids[k.toNat]<=ZR t.kids[i.toNat]:=by
     rw[Xw t.kids[i.toNat]];have:=WV hk.2;have:=Xx t.kids[i.toNat].kids (k.toNat+1);omega
    omega
   exact hz
  exact hz
theorem zE5 (t:Z9) (p:List Int) {m:Nat} (h:ZR t<=m):ZQ (ZM t p).1.kids<=m:=by
 have hz:ZQ ZN.kids<=m:=Qj _;unfold ZM;split
 ·exact hz
 split
 ·exact hz
 have h1:=SV t p;have h2:=Xw (ZP t p).1;show ZQ (ZP t p).1.kids<=m;omega
theorem zGx {t:Z9} {p:List Int} (hv:ZU t=true) (h:(ZM t p).2=0):(ZP t p).2=true/\(ZM t p).1=(ZP t p).1:=by
 unfold ZM at h ⊢;rw[if_neg (by simp[hv])] at h ⊢;split at h
 ·simp at h
 rename_i h1;rw[if_neg h1];exact⟨by simpa using h1,rfl⟩
theorem Yb {t:Z9} (h:ZU t=true):ZR t<=1000/\t.kind=1/\Y9 t=true/\Y4 t<=24:=by
 unfold ZU at h;simp only[Bool.and_eq_true,decide_eq_true_eq,beq_iff_eq] at h;exact⟨by omega,h.1.1.1,h.1.1.2,by omega⟩
theorem zPg (w:World) (A:Option Addr) (n c:Nat):Calls Tryz.prog 52 #[.slice A n c] w fun e w'=>e=.returned (.agg #[.int .i64 1,.string ⟨#[]⟩,.int .i64 0,.slice A n c])/\Below w.heap.size w w':=by
 go_enter Tryz.func52,Tryz.ntmps52
 go_wp2
 refine bodyPost_ret (v:=.agg #[.int .i64 1,.string ⟨#[]⟩,.int .i64 0,.slice A n c]) (by simp[results,Tryz.results52,go_sem]) rfl ⟨rfl,Zx _ _⟩
theorem zLf {w:World} {S:Nat->Prop} {ops:List ZL} {A:Option Addr} {cs:List Value} (h3:Zd w S A cs) (h4:ZG Za w S ops cs) {k:Nat} (hk:k<ops.length) :
  ∃
   g o Ar An cr cn,A=some ⟨g,o,none⟩/\S g /\
   w.cell? ⟨g,o+k*8,none⟩=some (.int .i64 ops[k].kind)/\w.cell? ⟨g,o+k*8+1,none⟩=some (.slice Ar ops[k].row.length cr)/\w.cell? ⟨g,o+k*8+2,none⟩=some (.int .i64 ops[k].at_) /\
   w.cell? ⟨g,o+k*8+3,none⟩=some (.int .i64 ops[k].n)/\w.cell? ⟨g,o+k*8+4,none⟩=some (.slice An ops[k].nodes.length cn)/\w.cell? ⟨g,o+k*8+5,none⟩=some (.int .i64 ops[k].slot) /\
   w.cell? ⟨g,o+k*8+6,none⟩=some (.string ops[k].old)/\w.cell? ⟨g,o+k*8+7,none⟩=some (.string ops[k].text) /\
   Z0 w S ops[k].row (.slice Ar ops[k].row.length cr)/\QW w S ops[k].nodes (.slice An ops[k].nodes.length cn)/\Z4 ops[k].at_/\Z4 ops[k].n/\Z4 ops[k].slot:=by
 obtain⟨g,o,c,e,hb,⟨vr,vn,rfl,h1,h2,ae,aa,h5,h6,h7,h8⟩,hc⟩:=RB h3 h4 hk;obtain⟨Ar,cr,rfl⟩:=h7.form;obtain⟨An,cn,rfl⟩:=h8.form;exact⟨g,o,Ar,An,cr,cn,e,hb,by simpa[Za] using hc 0 _ rfl,by simpa[Za] using hc 1 _ rfl,by simpa[Za] using hc 2 _ rfl,by simpa[Za] using hc 3 _ rfl,by simpa[Za] using hc 4 _ rfl,
  by simpa[Za] using hc 5 _ rfl,by simpa[Za] using hc 6 _ rfl,by simpa[Za] using hc 7 _ rfl,h7,h8,h2,ae,aa⟩
def Sv (h:Nat) (lv:Value) (wr:World) (k:Nat):Prop:=h<=k/\k<wr.heap.size/\k≠h+1/\some k≠lv.ownBlock
def addrs (P:List YD):List (Nat×Nat):=P.map fun x=>(x.1,x.2.1)
def pcnt:List YD->Nat
 |[]=>0
 |x::P=>ZR x.2.2+pcnt P
theorem QH (P Q:List YD):pcnt (P++Q)=pcnt P+pcnt Q:=by
 induction P with
 |nil=>simp[pcnt]
 |cons x P ih=>simp only[List.cons_append,pcnt,ih];omega
def Xe (g:Nat):Nat->List Z9->List YD
 |_,[]=>[]
 |i,t::ts=>(g,i*4,t)::Xe g (i+1) ts
def YJ (g:Nat) (ts:List Z9):List YD:=Xe g 0 ts
theorem zH2 (g:Nat):∀(ts:List Z9) (i:Nat),(Xe g i ts).length=ts.length
 |[],i=>rfl
 |t::ts,i=>by simp[Xe,zH2 g ts (i+1)]
theorem zF9 (g:Nat):∀(ts:List Z9) (i j:Nat) (h:j<ts.length),(Xe g i ts)[j]?=some (g,(i+j)*4,ts[j])
 |t::ts,i,0,h=>by simp[Xe]
 |
  t::ts,i,j+1,h=>by
  simp only[Xe,List.getElem?_cons_succ,List.getElem_cons_succ];rw[zF9 g ts (i+1) j (by simpa using h),show i+1+j=i+(j+1) by omega]
theorem zH3 (g:Nat):∀(ts:List Z9) (i:Nat),pcnt (Xe g i ts)=ZQ ts
 |[],i=>rfl
 |t::ts,i=>by simp only[Xe,pcnt,ZQ,zH3 g ts (i+1)]
structure DI (w wr:World) (e en:TypeId) (lv:Value) (t:Z9) (SL PL:List YD):Prop where
 stack:RQ wr (w.heap.size+2) e lv SL
 pend:∀x∈PL,TG w wr (Sv w.heap.size lv wr) x
 nodup:(addrs PL).Nodup
 built:Ww wr (Sv w.heap.size lv wr) (·∈PL) w.heap.size 0 t
 below:Below w.heap.size w wr
 box:w.heap.size+2<=wr.heap.size
 frz:∀x∈PL,wr.frozen? ⟨x.1,x.2.1+3,none⟩=false
 res:wr.heap[w.heap.size+1]?=some (.cells #[.int .i64 0,.string ⟨#[]⟩,.int .i64 0,.slice none 0 0] en (0,0))
theorem DI.push {w wr w':World} {e en:TypeId} {lv v':Value} {t:Z9} {SL SL' PL:List YD} (hd:DI w wr e en lv t SL PL) (hs:RQ w' (w.heap.size+2) e v' SL') (hg:wr.grownBy w' lv.ownBlock) (hv:∀k,v'.ownBlock=some k->lv.ownBlock=some k\/wr.heap.size<=k)
  : DI w w' e en v' t SL' PL:=by
 have hS:∀k,Sv w.heap.size lv wr k->Sv w.heap.size v' w' k:=fun k hk=>⟨hk.1,Qk hk.2.1 hg.size,hk.2.2.1,fun e=>by
  rcases hv k e.symm with h|h
  ·exact hk.2.2.2 h.symm
  have:=hk.2.1;omega⟩
 have hc:∀q:Addr,Sv w.heap.size lv wr q.block->w'.cell? q=wr.cell? q:=fun q hq=>World.cell?_of_block (hg.block q.block hq.2.1 hq.2.2.2)
 have hb:∀k,lv.ownBlock=some k->w.heap.size<=k:=fun k hk=>by have:=(hd.stack.lt k hk).1;omega
 refine⟨hs,fun x hx=>(hd.pend x hx).keep hS (fun j _=>hc ⟨x.1,x.2.1+j,none⟩ (hd.pend x hx).1),hd.nodup,hd.built.keep hS hc (fun _ h=>h),hd.below.grown hg (by have:=hd.box;omega) (fun k e=>hb k e),Qf hd.box hg.size,fun x hx=>(World.frozen?_of_block (hg.block x.1 (hd.pend x hx).1.2.1 (hd.pend x hx).1.2.2.2)).trans (hd.frz x hx),(hg.block _ (by have:=hd.box;omega) (fun e=>by have:=(hd.stack.lt _ e.symm).1;omega)).trans hd.res⟩
theorem DI.result {w wr:World} {e en:TypeId} {lv:Value} {t:Z9} {SL:List YD} (hd:DI w wr e en lv t SL []):∃v,Wn wr w.heap.size 0 t v/\Z8 Z6 wr (Sv w.heap.size lv wr) t.kids v:=by
 obtain⟨v,h1,_,h3⟩:=hd.built.reads (fun x h=>by cases h);exact⟨v,h1,h3⟩
theorem Qx {g:Nat} {ts:List Z9} {x:YD}:x∈YJ g ts↔∃(i:Nat) (h:i<ts.length),x=(g,i*4,ts[i]):=by
 constructor
 ·intro hx;obtain⟨i,hi,h⟩:=List.mem_iff_getElem.1 hx;have aa:i<ts.length:=by rw[<-zH2 g ts 0];exact hi
  have:=zF9 g ts 0 i aa;rw[Nat.zero_add] at this;refine⟨i,aa,?_⟩;have h2:(YJ g ts)[i]?=some x:=by rw[List.getElem?_eq_getElem hi,h]
  rw[YJ,this] at h2;exact(Option.some.inj h2).symm
 rintro ⟨i,hi,rfl⟩;have:=zF9 g ts 0 i hi;rw[Nat.zero_add] at this;exact List.mem_of_getElem? this
theorem zN3 (g:Nat):∀(ts:List Z9) (i:Nat),∀a∈addrs (Xe g i ts),i*4<=a.2
 |[],i,a,h=>by simp[Xe,addrs] at h
 |
  t::ts,i,a,h=>by
  simp only[Xe,addrs,List.map_cons,List.mem_cons] at h;rcases h with rfl|h
  ·simp
  have:=zN3 g ts (i+1) a h;omega
theorem zH1 (g:Nat):∀(ts:List Z9) (i:Nat),(addrs (Xe g i ts)).Nodup
 |[],i=>by simp[Xe,addrs]
 |
  t::ts,i=>by
  simp only[Xe,addrs,List.map_cons,List.nodup_cons];refine⟨fun h=>?_,zH1 g ts (i+1)⟩;have:=zN3 g ts (i+1) _ h;simp only at this;omega
theorem zMy {g:Nat} {ts:List Z9}:(addrs (YJ g ts)).Nodup:=zH1 g ts 0
theorem DI.node {w wr W4:World} {e en:TypeId} {lv lv':Value} {t:Z9} {Q:List YD} {x:YD} {g' cap':Nat} {A':Option Addr} (hd:DI w wr e en lv t (Q++[x]) (Q++[x]))
  (hk:∀q:Addr,q.block<wr.heap.size->q≠⟨x.1,x.2.1+3,none⟩->W4.cell? q=wr.cell? q) (hs:RQ W4 (w.heap.size+2) e lv' Q) (ae:lv'.ownBlock=lv.ownBlock) (hb:Below w.heap.size w W4) (ak:wr.heap.size<=W4.heap.size)
  (hf:∀q:Addr,q.block<wr.heap.size->W4.frozen? q=wr.frozen? q) (aA:0<x.2.2.kids.length->∀o,W4.frozen? ⟨g',o,none⟩=false) (ag:W4.heap[w.heap.size+1]?=wr.heap[w.heap.size+1]?) (hc:W4.cell? ⟨x.1,x.2.1+3,none⟩=some (.slice A' x.2.2.kids.length cap')) (aj:x.2.2.kids.length<=cap') (ah:cap'<=maxLen)
  (hg:wr.heap.size<=g') (hA:0<x.2.2.kids.length->A'=some ⟨g',0,none⟩/\g'<W4.heap.size)
  (aa:∀(i:Nat) (hi:i<x.2.2.kids.length),Zk x.2.2.kids[i]/\∃v,Wn W4 g' (i*4) x.2.2.kids[i] v/\Z8 Z6 w (Lt w.heap.size) x.2.2.kids[i].kids v) :
  DI w W4 e en lv' t Q (Q++YJ g' x.2.2.kids):=by
 have hS:∀k,Sv w.heap.size lv wr k->Sv w.heap.size lv' W4 k:=fun k hk=>⟨hk.1,Qk hk.2.1 ak,hk.2.2.1,by rw[ae];exact hk.2.2.2⟩
 have aB:=hd.box;have az:∀k,lv.ownBlock=some k->k<wr.heap.size:=fun k hk=>(hd.stack.lt k hk).2
 have av:0<x.2.2.kids.length->Sv w.heap.size lv' W4 g':=fun h=>⟨by omega,(hA h).2,by omega,by rw[ae];intro e;have:=az _ e.symm;omega⟩
 have au:∀q:Addr,Sv w.heap.size lv wr q.block->q≠⟨x.1,x.2.1+3,none⟩->W4.cell? q=wr.cell? q:=fun q hq ay=>hk q hq.2.1 ay
 have hx:=hd.pend x (by simp);have af:=hd.nodup;unfold addrs at af;rw[List.map_append,List.nodup_append] at af;refine⟨hs,?_,?_,?_,hb,Qf aB ak,?_,ag.trans hd.res⟩
 ·intro y hy;rcases List.mem_append.1 hy with hy|hy
  ·refine(hd.pend y (by simp[hy])).other hx.2.1 (fun e=>?_) hS au;exact af.2.2 _ (List.mem_map_of_mem hy) _ (List.mem_map_of_mem (List.mem_singleton_self x)) (by rw[Prod.mk.injEq];exact e)
  obtain⟨i,hi,rfl⟩:=Qx.1 hy;obtain⟨h1,v,h2,h3⟩:=aa i hi;exact⟨av (by omega),⟨i,rfl⟩,h1,v,h2,h3⟩
 ·unfold addrs;rw[List.map_append,List.nodup_append];refine⟨af.1,zMy,?_⟩;intro a ha b aC e;subst e;obtain⟨y,hy,rfl⟩:=List.mem_map.1 ha;obtain⟨z,hz,ax⟩:=List.mem_map.1 aC;obtain⟨i,hi,rfl⟩:=Qx.1 hz;have h1:=(hd.pend y (by simp[hy])).1.2.1;have h2:g'=y.1:=congrArg Prod.fst ax;omega
 ·refine Ww.step (g':=g') hx (fun y hy=>?_) hS (fun k hk=>hk.1) au hc aj ah (fun h=>⟨(hA h).1,av h⟩) (fun i hi=>List.mem_append_right _ (Qx.2 ⟨i,hi,rfl⟩)) hd.built;rcases List.mem_append.1 hy with hy|hy
  ·exact .inr (List.mem_append_left _ hy)
  exact .inl (List.mem_singleton.1 hy)
 intro y hy;rcases List.mem_append.1 hy with hy|hy
 ·exact(hf _ (hd.pend y (by simp[hy])).1.2.1).trans (hd.frz y (by simp[hy]))
 obtain⟨i,hi,rfl⟩:=Qx.1 hy;exact aA (by omega) _
theorem zMb {w W4:World} {S:Nat->Prop} {ts:List Z9} {cs:List Value} {g':Nat} {T:TypeId} (hg:W4.heap[g']?=some (.cells cs.toArray T (0,0))) (hl:ZG Z6 w S ts cs) :
  ∀(i:Nat) (hi:i<ts.length),Zk ts[i]/\∃v,Wn W4 g' (i*4) ts[i] v/\Z8 Z6 w S ts[i].kids v:=by
 intro i hi;obtain⟨c,_,hR,hc⟩:=hl.at_ hi;obtain⟨v,rfl,h1,h2,h3,h4⟩:=Yl.1 hR;have hcell:∀j,j<4->W4.cell? ⟨g',i*4+j,none⟩=[Value.int .i64 ts[i].kind,.string ts[i].text,.int .i64 ts[i].cols,v][j]?:=fun j hj=>by
  rw[cell_of_row W4 g' (i*4+j) cs.toArray T (0,0) hg];have:=hc j hj;simpa[Z6] using this
 have h0:=hcell 0 (by omega);rw[Nat.add_zero] at h0;exact⟨⟨h1,h2,h3⟩,v,⟨h0,hcell 1 (by omega),hcell 2 (by omega),hcell 3 (by omega)⟩,h4⟩
theorem DI.start (w:World) (e en:TypeId) (t:Z9) (A:Option Addr) (cap:Nat) (hv:Z8 Z6 w (Lt w.heap.size) t.kids (.slice A t.kids.length cap)) (ag:Zk t) (W0:World)
  (hW:W0=((w.alloc (.cells #[.int .i64 t.kind,.string t.text,.int .i64 t.cols,.slice A t.kids.length cap] en)).alloc (.cells #[.int .i64 0,.string ⟨#[]⟩,.int .i64 0,.slice none 0 0] en)).alloc (.cells #[.pointer (some ⟨w.heap.size,0,none⟩)] e)) :
  DI w W0 e en (.slice (some ⟨w.heap.size+1+1,0,none⟩) 1 1) t [(w.heap.size,0,t)] [(w.heap.size,0,t)]:=by
 obtain⟨W1,ae⟩:∃W1,W1=w.alloc (.cells #[.int .i64 t.kind,.string t.text,.int .i64 t.cols,.slice A t.kids.length cap] en):=⟨_,rfl⟩;obtain⟨W2,aa⟩:∃W2,W2=W1.alloc (.cells #[.int .i64 0,.string ⟨#[]⟩,.int .i64 0,.slice none 0 0] en):=⟨_,rfl⟩;rw[<-ae,<-aa] at hW;have s1:W1.heap.size=w.heap.size+1:=by rw[ae];simp
 have s2:W2.heap.size=w.heap.size+1+1:=by rw[aa];simp[s1]
 have s0:W0.heap.size=w.heap.size+1+1+1:=by rw[hW];simp[s2]
 have h1:W1.heap[w.heap.size]?=some (.cells #[.int .i64 t.kind,.string t.text,.int .i64 t.cols,.slice A t.kids.length cap] en (0,0)):=by rw[ae];exact heap_alloc_new w _
 have h2:W2.heap[w.heap.size+1]?=some (.cells #[.int .i64 0,.string ⟨#[]⟩,.int .i64 0,.slice none 0 0] en (0,0)):=by rw[aa,<-s1];exact heap_alloc_new W1 _
 have h3:W0.heap[w.heap.size+1+1]?=some (.cells #[.pointer (some ⟨w.heap.size,0,none⟩)] e (0,0)):=by rw[hW,<-s2];exact heap_alloc_new W2 _
 have af:W0.heap[w.heap.size]?=some (.cells #[.int .i64 t.kind,.string t.text,.int .i64 t.cols,.slice A t.kids.length cap] en (0,0)):=by
  rw[hW,Below.heap_alloc _ _ _ (by omega),aa,Below.heap_alloc _ _ _ (by omega)];exact h1
 have ah:W0.heap[w.heap.size+1]?=some (.cells #[.int .i64 0,.string ⟨#[]⟩,.int .i64 0,.slice none 0 0] en (0,0)):=by rw[hW,Below.heap_alloc _ _ _ (by omega)];exact h2
 have hb:Below w.heap.size w W0:=by rw[hW,aa,ae];exact(((Qg _ w).alloc (Qi _) _).alloc (by simp) _).alloc (by simp;omega) _
 have hn:Wn W0 w.heap.size 0 t (.slice A t.kids.length cap):=by
  refine⟨?_,?_,?_,?_⟩<;>rw[cell_of_row W0 w.heap.size _ _ en (0,0) af]<;>rfl
 refine⟨⟨rfl,.inr ⟨w.heap.size+1+1,1,_,rfl,Qi _,h3,Qi _,by simp[maxLen],rfl,rfl⟩⟩,?_,by simp[addrs],.pend _ _ _ (List.mem_singleton_self _),hb,by omega,?_,ah⟩
 ·intro x hx;obtain rfl:=List.mem_singleton.1 hx;exact⟨⟨Qi _,by simp;omega,by simp,by simp[Value.ownBlock];omega⟩,⟨0,rfl⟩,ag,_,hn,hv⟩
 intro x hx;obtain rfl:=List.mem_singleton.1 hx;simp[World.frozen?,af]
theorem Ua {W:World} {q a:Addr} (v:Value) (h:q.block≠a.block):(W.setCell a v).cell? q=W.cell? q:=World.cell?_of_block (Below.heap_setCell W a v q.block h)
theorem zKe:∀P:List YD,P.length<=pcnt P
 |[]=>Qi _
 |
  x::P=>by
  have h:=zKe P;have h2:=XW x.2.2;simp only[pcnt,List.length_cons];omega
theorem zHh:(Tryz.prog.info? 24).map (·.size)=some 4:=by kernel_rfl
theorem zF5:∃i,Tryz.prog.info? 24=some i/\i.zero=some (.agg #[.int .i64 0,.string ⟨#[]⟩,.int .i64 0,.slice none 0 0])/\i.size=4/\i.bytes=56:=by
 have h:=Rn;rw[Option.map_eq_some_iff] at h;obtain⟨i,h1,h2⟩:=h;simp only[Prod.mk.injEq] at h2;exact⟨i,h1,h2.1,h2.2.1,h2.2.2⟩
theorem zJi {w wr WM:World} {xg xo n G c:Nat} {u:Value} {T:TypeId} {l cs:List Value} {ad:Addr} (hb:Below w.heap.size w wr) (hx1:w.heap.size<=xg) (ae:xg<wr.heap.size) (n3:wr.cell? ⟨xg,xo+3,none⟩=some u) (au:wr.frozen? ⟨xg,xo+3,none⟩=false) (hG:G=wr.heap.size)
  (h1:WM.ownsRow (wr.setCell ⟨xg,xo+3,none⟩ (.slice none 0 0)).heap.size T 4 (.slice (some ⟨(wr.setCell ⟨xg,xo+3,none⟩ (.slice none 0 0)).heap.size,0,none⟩) n n) n l) (h2:(wr.setCell ⟨xg,xo+3,none⟩ (.slice none 0 0)).grownBy WM none) (av:cs.length=n*4) (ax:ad.block<w.heap.size)
  (ak:∀j v,cs[j]?=some v->w.cell? (ad.add j)=some v) :
  WM.cell? ⟨xg,xo+3,none⟩=some (.slice none 0 0)/\WM.frozen? ⟨xg,xo+3,none⟩=false/\∃aa:Array Value,Hid ((WM.setCell ⟨xg,xo+3,none⟩ (.slice (some ⟨G,0,none⟩) n n)).heap[G]?=some (.cells aa T (0,0)))/\Hid (aa.size=cs.length) /\
   Hid (∀j v,cs[j]?=some v->(WM.setCell ⟨xg,xo+3,none⟩ (.slice (some ⟨G,0,none⟩) n n)).cell? (ad.add j)=some v):=by
 subst hG;have ah:(wr.setCell ⟨xg,xo+3,none⟩ (.slice none 0 0)).heap.size=wr.heap.size:=by simp[World.setCell]
 have aj:xg<(wr.setCell ⟨xg,xo+3,none⟩ (.slice none 0 0)).heap.size:=by rw[ah];exact ae
 refine⟨h2.cell (World.cell?_setCell_same _ _ _ n3) (by simp),(World.frozen?_of_block (h2.block xg aj (by simp))).trans ((World.frozen?_setCell _ _ _ _).trans au),?_⟩;have ay:∀j v,cs[j]?=some v->(WM.setCell ⟨xg,xo+3,none⟩ (.slice (some ⟨wr.heap.size,0,none⟩) n n)).cell? (ad.add j)=some v:=by
  intro j v hj;have ag:(ad.add j).block=ad.block:=by unfold Addr.add;split<;>rfl
  have af:(ad.add j).block≠xg:=by rw[ag];omega
  rw[Ua _ af];refine h2.cell ?_ (by simp);rw[Ua _ af];rw[World.cell?_of_block (hb.block _ (by rw[ag];exact ax))];exact ak j v hj
 rcases h1.2 with ⟨h,_⟩|⟨g0,c0,aa,e1,k2,k3,k4,k5,k6,k7⟩
 ·cases h
 injection e1 with h8 h9 h10
 injection h8 with h8
 injection h8 with h8
 subst h8;subst h10;rw[ah] at k3;exact⟨aa,(Below.heap_setCell WM _ _ _ (by exact Ne.symm (Nat.ne_of_lt ae))).trans k3,k6.trans av.symm,ay⟩
theorem DI.copied {w wr WM W4:World} {e en:TypeId} {lv lv':Value} {t:Z9} {Q:List YD} {xg xo c1:Nat} {xt:Z9} {u:Value} {cs:List Value} {cur:Array Value} (hd:DI w wr e en lv t (Q++[(xg,xo,xt)]) (Q++[(xg,xo,xt)]))
  (hs:RQ wr (w.heap.size+2) e lv' Q) (aa:lv'.ownBlock=lv.ownBlock) (n3:wr.cell? ⟨xg,xo+3,none⟩=some u) (h2:(wr.setCell ⟨xg,xo+3,none⟩ (.slice none 0 0)).grownBy WM none) (hz:0<xt.kids.length) (hk:xt.kids.length<=1000000) (hlt:wr.heap.size<WM.heap.size)
  (hc:(WM.setCell ⟨xg,xo+3,none⟩ (.slice (some ⟨wr.heap.size,0,none⟩) xt.kids.length xt.kids.length)).heap[wr.heap.size]?=some (.cells cur en (0,0))) (hl:ZG Z6 w (Lt w.heap.size) xt.kids cs)
  (hW:W4=(WM.setCell ⟨xg,xo+3,none⟩ (.slice (some ⟨wr.heap.size,0,none⟩) xt.kids.length xt.kids.length)).setRow wr.heap.size cs.toArray) :
  W4.cell? ⟨xg,xo+3,none⟩=some (.slice (some ⟨wr.heap.size,0,none⟩) xt.kids.length xt.kids.length)/\DI w W4 e en lv' t Q (Q++YJ wr.heap.size xt.kids):=by
 obtain⟨⟨ah,av,au,ak⟩,hal,ax,v,hn,hxv⟩:=hd.pend (xg,xo,xt) (by simp)
 dsimp only at ah av au ak
 have ag:(wr.setCell ⟨xg,xo+3,none⟩ (.slice none 0 0)).heap.size=wr.heap.size:=by simp[World.setCell]
 have m3:WM.cell? ⟨xg,xo+3,none⟩=some (.slice none 0 0):=h2.cell (World.cell?_setCell_same _ _ _ n3) (by simp);have hG:=setRow_heap _ _ cur cs.toArray _ _ hc;rw[<-hW] at hG;have c4:W4.cell? ⟨xg,xo+3,none⟩=some (.slice (some ⟨wr.heap.size,0,none⟩) xt.kids.length xt.kids.length):=by
  rw[hW,cell_setRow_other _ _ _ _ (by exact Nat.ne_of_lt av)];exact World.cell?_setCell_same _ _ _ m3
 have af:∀k,k<wr.heap.size->k≠xg->W4.heap[k]?=wr.heap[k]?:=fun k hk ae=>by
  rw[hW,setRow_other _ _ _ _ (Nat.ne_of_lt hk),Below.heap_setCell WM _ _ k (by exact ae),h2.block k (by rw[ag];exact hk) (by simp),Below.heap_setCell wr _ _ k (by exact ae)]
 refine⟨c4,hd.node (g':=wr.heap.size) (cap':=xt.kids.length) (A':=some ⟨wr.heap.size,0,none⟩) (fun q hq ae=>?_) ?_ aa ?_ ?_ (fun q hq=>?_) (fun _ o=>?_) (af _ (by have:=hd.box;omega) (by exact Ne.symm au)) c4 (Qi _) (by simp[maxLen];omega) (Qi _) (fun _=>⟨rfl,(Array.getElem?_eq_some_iff.1 hG).1⟩) (fun i hi=>zMb hG hl i hi)⟩
 ·rw[hW,cell_setRow_other _ _ _ _ (Nat.ne_of_lt hq),World.cell?_setCell_other _ _ _ _ (Ne.symm ae),World.cell?_of_block (h2.block _ (by rw[ag];exact hq) (by simp)),World.cell?_setCell_other _ _ _ _ (Ne.symm ae)]
 ·obtain⟨az,ay⟩:=hs;refine⟨az,?_⟩;rcases ay with h|⟨g,cap,aj,rfl,h3,h4,h5⟩
  ·exact .inl h
  refine .inr ⟨g,cap,aj,rfl,h3,?_,h5⟩;rw[af g (Array.getElem?_eq_some_iff.1 h4).1 (fun e=>ak (by rw[<-aa,<-e];rfl))];exact h4
 ·rw[hW];exact below_setRow (((hd.below.setCell (p:=⟨xg,xo+3,none⟩) ah _).grown h2 (by rw[ag];have:=hd.box;omega) (fun k e=>by cases e)).setCell (p:=⟨xg,xo+3,none⟩) ah _) (by have:=hd.box;omega) _
 ·rw[hW];simp[World.setCell];omega
 ·rw[hW,World.frozen?_of_block (setRow_other _ _ _ _ (Nat.ne_of_lt hq)),World.frozen?_setCell,World.frozen?_of_block (h2.block _ (by rw[ag];exact hq) (by simp)),World.frozen?_setCell]
 simp[World.frozen?,hG]
theorem DI.alloc {w wr:World} {e en:TypeId} {lv:Value} {t:Z9} {SL PL:List YD} (hd:DI w wr e en lv t SL PL) (o:Obj):DI w (wr.alloc o) e en lv t SL PL :=
 hd.push (World.ownsRow.alloc hd.stack o) (World.grownBy_alloc wr o _) (fun k h=>.inl h)
theorem zOt {g:Nat} {ts:List Z9} {Q:List YD} {j:Nat} (h:j<ts.length):Q++(YJ g ts).take (j+1)=(Q++(YJ g ts).take j)++[(g,j*4,ts[j])]:=by
 have h2:=zF9 g ts 0 j h;rw[Nat.zero_add] at h2;have h3:(YJ g ts).take (j+1)=(YJ g ts).take j++[(g,j*4,ts[j])]:=by
  rw[List.take_add_one,YJ,h2];rfl
 rw[h3,List.append_assoc]
theorem zE6 (g:Nat) (ts:List Z9):(YJ g ts).length=ts.length:=zH2 g ts 0
theorem DI.pushed {w wr w':World} {e en:TypeId} {lv v':Value} {t:Z9} {Q PL:List YD} {g j:Nat} {ts:List Z9} {o:Obj} (hd:DI w wr e en lv t (Q++(YJ g ts).take j) PL) (hj:j<ts.length) {n:Nat} (hn:n=Q.length+j)
  (hs:w'.ownsRow (w.heap.size+2) e 1 v' (n+1) ((Q++(YJ g ts).take j).map WE++[.pointer (some ⟨g,j*4,none⟩)])) (hg:(wr.alloc o).grownBy w' lv.ownBlock) (hv:v'.ownBlock=lv.ownBlock\/v'.ownBlock=some (wr.alloc o).heap.size) :
  DI w w' e en v' t (Q++(YJ g ts).take (j+1)) PL:=by
 refine(hd.alloc o).push ?_ hg (fun k hk=>?_)
 ·unfold RQ;have h2:=zE6 g ts;rw[zOt hj];have e1:((Q++(YJ g ts).take j)++[(g,j*4,ts[j])]).length=n+1:=by simp[h2];omega
  rw[e1,List.map_append];exact hs
 rcases hv with h|h
 ·exact .inl (h ▸ hk)
 rw[hk] at h;injection h with h;right;omega
def zVx (w:World) (t:Z9) (e:Ending) (w':World):Prop :=
 ∃v,e=.returned (.agg #[.int .i64 t.kind,.string t.text,.int .i64 t.cols,v])/\Z8 Z6 w' (fun k=>w.heap.size<=k/\k<w'.heap.size) t.kids v/\Below w.heap.size w w'
theorem zP1:(Tryz.prog.info? 123).map (fun i=>(i.zero,i.size,i.bytes))=some (some (.pointer none),1,8):=by kernel_rfl
theorem zGu {w:World} {a:Addr} {v:Value} (h:w.cell? a=some v):a.block<w.heap.size:=by
 rcases Nat.lt_or_ge a.block w.heap.size with h1|h1
 ·exact h1
 simp[World.cell?,Array.getElem?_eq_none h1] at h
theorem zLg (w:World) (x:Value) (e:TypeId) (g:Nat) (hg:g=w.heap.size):Zd (w.alloc (.cells #[x] e)) (fun _=>True) (some ⟨g,0,none⟩) [x]:=fun _=>⟨g,0,rfl,trivial,fun j u hu=>by
 subst hg;rw[Nat.zero_add,World.cell?_alloc_new];simpa using hu⟩
theorem zHu {wr w':World} {o:Obj} {row:Option Nat} {a:Addr} {v:Value} (h4:(wr.alloc o).grownBy w' row) (hc:wr.cell? a=some v) (hx:some a.block≠row):w'.cell? a=some v :=
 (World.cell?_of_block (h4.block a.block (by have:=zGu hc;simp;omega) hx)).trans (((XM wr o).cell (zGu hc)).trans hc)
theorem zJc {wr:World} {o:Obj} {v v':Value} {a:Addr} {u:Value} (h5:v'.ownBlock=v.ownBlock\/v'.ownBlock=some (wr.alloc o).heap.size) (hc:wr.cell? a=some u) (hx:some a.block≠v.ownBlock):some a.block≠v'.ownBlock:=by
 rcases h5 with h|h
 ·rw[h];exact hx
 rw[h];intro e;injection e with e;have:=zGu hc;simp at e;omega
theorem zDq (t:Z9) (A:Option Addr) (cap:Nat) (w:World) (hv:Z8 Z6 w (Lt w.heap.size) t.kids (.slice A t.kids.length cap)) (aT:Zk t) (az:ZR t<=1000000) :
  Calls Tryz.prog 95 #[.agg #[.int .i64 t.kind,.string t.text,.int .i64 t.cols,.slice A t.kids.length cap]] w (zVx w t):=by
 have HS:=hid (DI.start w 123 24 t A cap hv aT _ rfl);have dm:=hid az;clear hv aT az;go_enter Tryz.func95,Tryz.ntmps95
 go_wp2_with fail
 generalize (((w.alloc (.cells #[.int .i64 t.kind,.string t.text,.int .i64 t.cols,.slice A t.kids.length cap] 24)).alloc (.cells #[.int .i64 0,.string ⟨#[]⟩,.int .i64 0,.slice none 0 0] 24)).alloc (.cells #[.pointer (some ⟨w.heap.size,0,none⟩)] 123))=W0 at *
 go_loopg [3] (ZR t) (fun k bI wr=>∃(lv:Value) (P:List YD),lv=bI/\DI w wr 123 24 lv t P P/\pcnt P=k/\k<=1000000)
 case atStart=>exact⟨_,_,rfl,HS.out,by simp[pcnt],dm.out⟩
 obtain⟨lv,P,rfl,hd,hk,hkm⟩:=hrel;rcases List.eq_nil_or_concat P with rfl|⟨Q,x,rfl⟩
 ·obtain⟨v,hn,hr⟩:=hd.result;obtain⟨A1,c1,rfl⟩:=hr.form;have bQ:∃B1 d1,lv=.slice B1 0 d1:=by
   rcases hd.stack.2 with ⟨rfl,_⟩|⟨g,cap,aJ,rfl,_⟩
   · exact⟨_,_,rfl⟩
   exact⟨_,_,rfl⟩
  obtain⟨B1,d1,rfl⟩:=bQ;obtain⟨n0,n1,n2,n3⟩:=hn;simp only[Nat.zero_add] at n1 n2 n3;have aa:=hd.res;have aF:w.heap.size+1<wr.heap.size:=by have:=hd.box;omega
  have HB:=hid hd.below;have HR:=hid hr;have r0:wr.cell? ⟨w.heap.size+1,0,none⟩=some (.int .i64 0)/\wr.frozen? ⟨w.heap.size+1,0,none⟩=false:=by constructor<;>simp[World.cell?,World.frozen?,aa]
  have r1:wr.cell? ⟨w.heap.size+1,1,none⟩=some (.string ⟨#[]⟩)/\wr.frozen? ⟨w.heap.size+1,1,none⟩=false:=by constructor<;>simp[World.cell?,World.frozen?,aa]
  have r2:wr.cell? ⟨w.heap.size+1,2,none⟩=some (.int .i64 0)/\wr.frozen? ⟨w.heap.size+1,2,none⟩=false:=by constructor<;>simp[World.cell?,World.frozen?,aa]
  have r3:wr.cell? ⟨w.heap.size+1,3,none⟩=some (.slice none 0 0)/\wr.frozen? ⟨w.heap.size+1,3,none⟩=false:=by constructor<;>simp[World.cell?,World.frozen?,aa]
  obtain⟨r0,f0⟩:=r0;obtain⟨r1,f1⟩:=r1;obtain⟨r2,f2⟩:=r2;obtain⟨r3,f3⟩:=r3;clear hd aa hr hk
  go_wp2_with fail
  have q0:((((wr.setCell ⟨w.heap.size+1,0,none⟩ (.int .i64 t.kind)).setCell ⟨w.heap.size+1,1,none⟩ (.string t.text)).setCell ⟨w.heap.size+1,2,none⟩ (.int .i64 t.cols)).setCell ⟨w.heap.size+1,3,none⟩ (.slice A1 t.kids.length c1)).cell? ⟨w.heap.size+1,0,none⟩=some (.int .i64 t.kind):=by go_simp
  have q1:((((wr.setCell ⟨w.heap.size+1,0,none⟩ (.int .i64 t.kind)).setCell ⟨w.heap.size+1,1,none⟩ (.string t.text)).setCell ⟨w.heap.size+1,2,none⟩ (.int .i64 t.cols)).setCell ⟨w.heap.size+1,3,none⟩ (.slice A1 t.kids.length c1)).cell? ⟨w.heap.size+1,1,none⟩=some (.string t.text):=by go_simp
  have q2:((((wr.setCell ⟨w.heap.size+1,0,none⟩ (.int .i64 t.kind)).setCell ⟨w.heap.size+1,1,none⟩ (.string t.text)).setCell ⟨w.heap.size+1,2,none⟩ (.int .i64 t.cols)).setCell ⟨w.heap.size+1,3,none⟩ (.slice A1 t.kids.length c1)).cell? ⟨w.heap.size+1,2,none⟩=some (.int .i64 t.cols):=by go_simp
  have q3:((((wr.setCell ⟨w.heap.size+1,0,none⟩ (.int .i64 t.kind)).setCell ⟨w.heap.size+1,1,none⟩ (.string t.text)).setCell ⟨w.heap.size+1,2,none⟩ (.int .i64 t.cols)).setCell ⟨w.heap.size+1,3,none⟩ (.slice A1 t.kids.length c1)).cell? ⟨w.heap.size+1,3,none⟩=some (.slice A1 t.kids.length c1):=by go_simp
  have cB:=(((HB.out.setCell (p:=⟨w.heap.size+1,0,none⟩) (Nat.le_succ _) (.int .i64 t.kind)).setCell (p:=⟨w.heap.size+1,1,none⟩) (Nat.le_succ _) (.string t.text)).setCell (p:=⟨w.heap.size+1,2,none⟩) (Nat.le_succ _) (.int .i64 t.cols)).setCell (p:=⟨w.heap.size+1,3,none⟩) (Nat.le_succ _) (.slice A1 t.kids.length c1);have bL:Z8 Z6 ((((wr.setCell ⟨w.heap.size+1,0,none⟩ (.int .i64 t.kind)).setCell ⟨w.heap.size+1,1,none⟩ (.string t.text)).setCell ⟨w.heap.size+1,2,none⟩ (.int .i64 t.cols)).setCell ⟨w.heap.size+1,3,none⟩ (.slice A1 t.kids.length c1)) (fun k=>w.heap.size<=k/\k<((((wr.setCell ⟨w.heap.size+1,0,none⟩ (.int .i64 t.kind)).setCell ⟨w.heap.size+1,1,none⟩ (.string t.text)).setCell ⟨w.heap.size+1,2,none⟩ (.int .i64 t.cols)).setCell ⟨w.heap.size+1,3,none⟩ (.slice A1 t.kids.length c1)).heap.size) t.kids (.slice A1 t.kids.length c1) :=
   Z8.keep HR.out (fun q hq=>by rw[Ua _ hq.2.2.1,Ua _ hq.2.2.1,Ua _ hq.2.2.1,Ua _ hq.2.2.1]) (fun k hk=>⟨hk.1,by have:=hk.2.1;simpa[World.setCell] using this⟩)
  generalize ((((wr.setCell ⟨w.heap.size+1,0,none⟩ (.int .i64 t.kind)).setCell ⟨w.heap.size+1,1,none⟩ (.string t.text)).setCell ⟨w.heap.size+1,2,none⟩ (.int .i64 t.cols)).setCell ⟨w.heap.size+1,3,none⟩ (.slice A1 t.kids.length c1))=W5 at *;exact bodyPost_ret (v:=.agg #[.int .i64 t.kind,.string t.text,.int .i64 t.cols,.slice A1 t.kids.length c1]) (by simp[results,Tryz.results95,go_sem,q0,q1,q2,q3]) rfl ⟨_,rfl,bL,cB⟩
 rw[List.concat_eq_append] at hd hk;obtain⟨g,cp,rfl,hg1,hg2,bY,bW,az,aQ⟩:=hd.stack.top;have aU:=hd.frz x (by simp);have hx:=hd.pend x (by simp);obtain⟨xg,xo,xt⟩:=x;obtain⟨⟨aD,aC,aP,aB⟩,aG,ae,v,⟨n0,n1,n2,n3⟩,au⟩:=hx
 dsimp only [WE] at aU aD aC aP aB aG ae n0 n1 n2 n3 au az
 obtain⟨A1,c1,rfl⟩:=au.form;have bR:Q.length<=1000000:=by have:=zKe (Q++[(xg,xo,xt)]);simp at this;omega
 have bU:xt.kids.length<=1000000:=by
  have h1:=XW xt;rw[QH] at hk;simp only[pcnt] at hk;omega
 have HD:=hid hd;have aL:=hid aQ;have cO:=hid au;have HK:=hid hk;have HAL:=hid aG;have HOK:=hid ae;have aY:=hid aB;clear hd aQ au hk aG ae aB;have i0:(0:Int)<=(Q.length:Int):=by omega
 have i1:(Q.length:Int)<(Q.length:Int)+1:=by omega
 have i2:(Q.length:Int)<=(cp:Int):=by omega
 have i3:decide ((0:Int)<(Q.length:Int)+1)=true:=by rw[decide_eq_true_eq];omega
 rcases Nat.eq_zero_or_pos xt.kids.length with hz|hz
 ·have bK:=hid hz;rw[hz] at n3
  go_wp2_with (refine zEy rfl (.tmp 41) (.tmp 42) 22 rfl 24 4 Tryz.underlying22 zHh A1 c1 0 rfl rfl ?_)
  go_loop [3,49] (fun l i=>l=.slice (some ⟨g,0,none⟩) Q.length cp/\i=.int .i64 0) (fun _ _=>0)
  case atStart=>exact⟨rfl,rfl⟩
  obtain⟨rfl,rfl⟩:=hrel;have aj:xt.kids=[]:=List.eq_nil_of_length_eq_zero bK.out;have bM:pcnt Q<gk:=by have:=HK.out;rw[QH] at this;simp only[pcnt] at this;have:=XW xt;omega
  go_wp2_with fail
  go_roundg (pcnt Q)
  case measure=>exact bM
  case rel =>
   refine⟨_,Q,rfl,?_,rfl,by omega⟩;have h:=HD.out.node (W4:=wr.setCell ⟨xg,xo+3,none⟩ (.slice none 0 0)) (lv':=.slice (some ⟨g,0,none⟩) Q.length cp) (g':=wr.heap.size) (cap':=0) (A':=none) (fun q _ bP=>World.cell?_setCell_other _ _ _ _ (Ne.symm bP)) (ownsRow_setCell_other aL.out (by intro e;exact aY.out e.symm) _) rfl (HD.out.below.setCell aD _) (by simp[World.setCell]) (fun q _=>World.frozen?_setCell _ _ _ _) (by rw[aj];exact fun h=>absurd h (Nat.lt_irrefl 0)) (Below.heap_setCell wr _ _ _ (by exact Ne.symm aP)) (by rw[aj];exact World.cell?_setCell_same _ _ _ n3) (by rw[aj];exact Qi _) (Qj _) (Qi _) (by rw[aj];exact fun h=>absurd h (Nat.lt_irrefl 0)) (by rw[aj];exact fun i hi=>absurd hi (Nat.not_lt_zero _));rw[aj] at h;simpa[YJ,Xe] using h
 obtain⟨A2,c2,cs,e2,cu,bZ,av,ax⟩:=cO.out;injection e2 with e3 e4 e5
 subst e3;subst e5;have aW:cs.length=xt.kids.length*4:=by have:=ax.len;simpa[Z6,Nat.mul_comm] using this
 obtain⟨ad,rfl⟩:=av.some_ (by omega);have aH:ad.block<w.heap.size:=by
  obtain⟨g0,o0,h1,h2,_⟩:=av (by omega);cases h1;exact h2
 have aS:=hid (av.add ad rfl);have dh:=hid ax;have cK:=hid ax.one;have ak:=hid aW;have bJ:=hid hz;have i4:decide ((0:Int)<(xt.kids.length:Int))=true:=by rw[decide_eq_true_eq];omega
 obtain⟨ni,bH,bG,bD,bC⟩:=zF5;clear av ax aW hz
 go_wp2_with first
  |(
    refine wpList_make_full _ rfl (.tmp 34) (.tmp 34) 22 rfl (wr.setCell ⟨xg,xo+3,none⟩ (.slice none 0 0)).heap.size 24 ni _ 4 Tryz.underlying22 bH bG bD .i64 .i64 _ _ xt.kids.length rfl rfl rfl rfl (by rw[bC];omega) (by simp[maxLen];omega) (Qi _) ?_;intro WM ag af;obtain⟨m3,mf,aJ,ah,bq,aZ⟩:=zJi (c:=0) HD.out.below aD aC n3 aU rfl ag af ak.out aH aS.out;have bn:=hid ag;have bg:=hid af;have aA:Hid (wr.heap.size<WM.heap.size):=by
      rcases bn.out.2 with ⟨h,_⟩|⟨g0,c0,aJ,e1,k2,k3,k4⟩
      ·cases h
      have h9:=(Array.getElem?_eq_some_iff.1 k3).1;have h8:(wr.setCell ⟨xg,xo+3,none⟩ (.slice none 0 0)).heap.size=wr.heap.size:=by simp[World.setCell]
      show wr.heap.size<WM.heap.size;omega
    clear ag af)
  |(
    refine zE3 rfl (.tmp 41) (.tmp 42) 22 rfl 24 4 Tryz.underlying22 zHh wr.heap.size xt.kids.length ad c1 rfl rfl aJ 24 cs ah.out ak.out aZ.out bq.out cK.out ?_;obtain⟨W4,aI⟩:∃W4,W4=(WM.setCell ⟨xg,xo+3,none⟩ (.slice (some ⟨wr.heap.size,0,none⟩) xt.kids.length xt.kids.length)).setRow wr.heap.size cs.toArray:=⟨_,rfl⟩;rw[<-aI];obtain⟨c4,aV⟩:=HD.out.copied (c1:=0) (lv':=.slice (some ⟨g,0,none⟩) Q.length cp) aL.out rfl n3 bg.out bJ.out bU aA.out ah.out dh.out aI;have di:=hid aV;clear aI aV)
 have aK:=hid (show some xg≠(Value.slice (some ⟨g,0,none⟩) Q.length cp).ownBlock from aY.out);clear HD bn bg aA ah bq aZ aL m3 mf n0 n1 n2 aC aS;generalize wr.heap.size=G at *
 go_loopw [3,49] (fun l i aN=>∃j:Nat,j<=xt.kids.length/\i=.int .i64 j/\DI w aN 123 24 l t (Q++(YJ G xt.kids).take j) (Q++YJ G xt.kids)/\aN.cell? ⟨xg,xo+3,none⟩=some (.slice (some ⟨G,0,none⟩) xt.kids.length xt.kids.length)/\some xg≠l.ownBlock) (fun _ i _=>xt.kids.length-(intOf i).toNat)
 case atStart=>exact⟨0,Qj _,rfl,by simpa using di.out,c4,aK.out⟩
 obtain⟨j,hj,rfl,ay,cj,aO⟩:=hrel;have aM:=hid ay;have aX:=hid aO;rcases Nat.lt_or_ge j xt.kids.length with aF|hge
 ·have i5:decide ((j:Int)<(xt.kids.length:Int))=true:=by rw[decide_eq_true_eq];omega
  have i6:(0:Int)<=(j:Int):=by omega
  have i7:(j:Int)<(xt.kids.length:Int):=by omega
  have aA:=hid aF;have aR:=hid (World.ownsRow.alloc ay.stack (.cells #[.pointer (some ⟨G,j*4,none⟩)] 123));rw[show (Q++(YJ G xt.kids).take j).length=Q.length+j by simp[zE6];omega] at aR;obtain⟨pi,bB,bA,bz,bu⟩:=info_parts zP1;clear ay aF aO
  go_wp2_with first
   |(
      refine TF _ rfl (.tmp 52) (.tmp 59) 151 rfl (w.heap.size+2) 123 pi _ 1 8 Tryz.underlying151 bB bA bz bu rfl (Nat.succ_pos 0) _ (Q.length+j) _ rfl aR.out (fun _=>True) _ 1 1 [.pointer (some ⟨G,j*4,none⟩)] rfl rfl (zLg _ _ _ _ rfl) (by intro u hu;simp at hu;subst hu;rfl) (by unfold maxLen;omega) (by omega) (by have:=aM.out.box;simp;omega) ?_;intro v' w' h3 h4 h5;have HP:=hid (DI.pushed aM.out aA.out rfl h3 h4 h5);have df:=hid (zHu h4 cj aX.out);have cZ:=hid (zJc h5 cj aX.out);clear h3 h4 h5)
  go_roundw
  case rel=>exact⟨j+1,by omega,by go_num,HP.out,df.out,cZ.out⟩
  case measure=>simp[intOf];omega
 obtain rfl:j=xt.kids.length:=by omega
 have i5:decide ((xt.kids.length:Int)<(xt.kids.length:Int))=false:=by rw[decide_eq_false_iff_not];omega
 clear ay
 go_wp2_with fail
 have bN:pcnt (Q++YJ G xt.kids)<gk:=by
  have h1:=HK.out;rw[QH] at h1 ⊢;rw[YJ,zH3];simp only[pcnt] at h1;rw[Xw] at h1;omega
 go_roundg (pcnt (Q++YJ G xt.kids))
 case measure=>exact bN
 case rel =>
  refine⟨_,Q++YJ G xt.kids,rfl,?_,rfl,by omega⟩;have h:=aM.out;rw[List.take_of_length_le (by rw[zE6];exact Qi _)] at h;exact h
def WU (w:World) (b:Nat) (ts:List Z9) (v:Value):Prop:=∃cs,w.ownsRow b 24 4 v ts.length cs/\ZG Z6 w (Yf b w v) ts cs
theorem WU.rows {w:World} {b:Nat} {ts:List Z9} {v:Value} (h:WU w b ts v):Z8 Z6 w (fun k=>b<=k/\k<w.heap.size) ts v:=by
 obtain⟨cs,h1,h2⟩:=h;exact Z8.of_own (E:=Z6) h1 (fun k hk=>⟨(h1.lt k hk).1,(h1.lt k hk).2⟩) (h2.keep (Wi _ _) (fun k hk=>⟨hk.1,hk.2.1⟩))
theorem WU.nil (w:World) (b:Nat):WU w b [] (.slice none 0 0):=⟨[],World.ownsRow_nil _ _ _ _,rfl⟩
theorem WU.below {w w':World} {b:Nat} {ts:List Z9} {v:Value} (h:WU w b ts v) (hb:Below w.heap.size w w'):WU w' b ts v:=by
 obtain⟨cs,h1,h2⟩:=h;exact⟨cs,QF _ h1 hb,h2.keep (S:=Yf b w v) (fun p hp=>hb.cell hp.2.1) (fun k hk=>⟨hk.1,Qk hk.2.1 hb.size,hk.2.2⟩)⟩
theorem WU.own_lt {w:World} {b:Nat} {ts:List Z9} {v:Value} (h:WU w b ts v):∀k,v.ownBlock=some k->b<=k/\k<w.heap.size:=by
 obtain⟨cs,h1,_⟩:=h;exact fun k hk=>h1.lt k hk
theorem WU.form {w:World} {b:Nat} {ts:List Z9} {v:Value} (h:WU w b ts v):∃A c,v=.slice A ts.length c:=h.rows.form
section
variable {w:World} {b:Nat} {xss yss:List Z9} {v:Value}
theorem zMi {w':World} {v':Value} {cs rs:List Value} (h1:w.ownsRow b 24 4 v xss.length cs) (h2:ZG Z6 w (Yf b w v) xss cs) (aa:ZG Z6 w (Yf b w v) yss rs)
  (h3:w'.ownsRow b 24 4 v' (xss.length+yss.length) (cs++rs)) (h4:w.grownBy w' v.ownBlock) (h5:v'.ownBlock=v.ownBlock\/v'.ownBlock=some w.heap.size):WU w' b (xss++yss) v':=by
 refine⟨cs++rs,by rw[List.length_append];exact h3,?_⟩;refine(h2.append aa).keep (S:=Yf b w v) (fun p hp=>World.cell?_of_block (h4.block p.block hp.2.1 hp.2.2)) (fun k hk=>⟨hk.1,Qk hk.2.1 h4.size,?_⟩);rcases h5 with h5|h5
 ·rw[h5];exact hk.2.2
 rw[h5];intro e;injection e with e;have:=hk.2.1;omega
theorem zVq {ops:Array Oper} {rest:List Oper} {o:Oper} {a:Act} {Q:Exit->Act->World->Prop} (ay:o.guard=none) (s x:Operand)
  (ho:o.op=.call { callee:=.builtin .append,args:=#[s,x],argTypes:=#[22,22] })
  (b:Nat) (v:Value) (xss yss:List Z9) (hs:a.eval s=v) (aa:WU w b xss v) (A:Option Addr) (m c:Nat) (hx:a.eval x=.slice A m c) (hr:Z8 Z6 w (Yf b w v) yss (.slice A m c))
  (ag:xss.length+yss.length<=1000000000) (hb:b<=w.heap.size)
  (h:∀v' w',WU w' b (xss++yss) v'->Below b w w'->wpList Tryz.prog ops Q rest (a.put o.dst v') w'):wpList Tryz.prog ops Q (o::rest) a w:=by
 obtain⟨i0,ax,ak,aj,ah⟩:=zF5;obtain⟨A',cap',rs,e,h1,h2,au,af⟩:=hr;injection e with e1 e2 e3
 subst e1 e2 e3;obtain⟨cs,ae,av⟩:=aa;have hl:=af.len;refine TF w ay s x 22 ho b 24 i0 _ 4 56 Tryz.underlying22 ax ak aj ah rfl (by omega) v _ _ hs ae _ A _ c rs hx hl au af.one (by simp only[maxLen];omega) (by omega) hb ?_;intro v' w' h3 h4 h5;exact h v' w' (zMi ae av af h3 h4 h5) (Un _ ae h4 hb)
end
theorem VE {w2:World} {b b2:Nat} {t:Z9} {v u:Value} (aa:Zk t) (hu:Z8 Z6 w2 (fun k=>b2<=k/\k<w2.heap.size) t.kids u) (hb:b<=b2) (hv:∀k,v.ownBlock=some k->k<b2) (h2:b2<=w2.heap.size) (g:Nat) (hg:g=w2.heap.size) (e:TypeId) :
  Z8 Z6 (w2.alloc (.cells #[.int .i64 t.kind,.string t.text,.int .i64 t.cols,u] e)) (Yf b (w2.alloc (.cells #[.int .i64 t.kind,.string t.text,.int .i64 t.cols,u] e)) v) [t] (.slice (some ⟨g,0,none⟩) 1 1):=by
 subst hg;have hi:Z8 Z6 (w2.alloc (.cells #[.int .i64 t.kind,.string t.text,.int .i64 t.cols,u] e)) (Yf b (w2.alloc (.cells #[.int .i64 t.kind,.string t.text,.int .i64 t.cols,u] e)) v) t.kids u :=
  hu.keep (fun p hp=>(XM _ _).cell hp.2) (fun k hk=>⟨Qf hb hk.1,by simp;omega,fun e=>by have:=hv k e.symm;omega⟩)
 refine⟨_,_,[.int .i64 t.kind,.string t.text,.int .i64 t.cols,u],rfl,Qi _,by simp[maxLen],fun _=>⟨w2.heap.size,0,rfl,⟨by omega,by simp,fun e=>by have:=hv _ e.symm;omega⟩,fun j x hx=>?_⟩,ZG.single (E:=Z6) (Yl.2 ⟨u,rfl,aa.1,aa.2.1,aa.2.2,hi⟩)⟩;rw[Nat.zero_add,World.cell?_alloc_new];simpa using hx
end Go.Proofs.YthpngeboknmllaaGreat
namespace Go.Proofs.YthpngeboknmllaaGreat
open Go Go.RowKit
def zVu {α:Type} (J:List α->World->Prop):Prop:=∀s A B,J s A->Below A.heap.size A B->J s B
def RO {α:Type} (P:Program) (g:Nat) (lb:Array Value) (enc:α->Value) (Rd:α->World->Prop) (Kp:World->World->Prop) (Gd:World->Prop) (S Sp:List α->Prop) (w:World):Prop :=
 ∀
  (l:Nat) (J Jx:List α->World->Prop) (W:World),Below w.heap.size w W->w.heap.size+2<=W.heap.size->zVu J->zVu Jx->(∀s A,J s A->Gd A) ->
  (∀pre x W1,J pre W1->Rd x W1->Sp (pre++[x])->YieldAt Fence.wide 0 P l #[enc x] W1 fun e W' =>
   (e=.returned (.bool true)/\J (pre++[x]) W'/\Kp W1 W')\/(e=.returned (.bool false)/\Jx (pre++[x]) W')) ->
  J [] W ->
  CallsIn Fence.wide 0 P g (#[.func (.yield l) #[] #[]]++lb) W fun e W'=>(∃v,e=.returned v)/\((∃xs,S xs/\J xs W')\/(∃pre,Sp pre/\Jx pre W'))
theorem zHb {W W':World} (h:Below W.heap.size W W'):W.grownBy W' none:=⟨h.os,h.tape,h.output,h.size,fun k hk _=>h.block k hk⟩
theorem OwnFrom.grows {α:Type} {B:Nat} {I:List α->World->Prop} (h:OwnFrom B I):zVu I:=fun s A C hs hb=>h s A C none hs (zHb hb) (fun r e=>by cases e)
theorem zJz {P:Program} {α:Type} {g:Operand} {p:Tmp} {assign body:Code} {Q:Exit->Act->World->Prop} {a:Act} {w:World}
  {gf:Nat} {lb:Array Value} (hg:a.eval g=.func (.func gf) #[] lb) (eg:∀args w,(callFunc gf args).run P w=.ok (.enter gf args) w)
  {enc:α->Value} {Rd:α->World->Prop} {Kp:World->World->Prop} {Gd:World->Prop} {S Sp:List α->Prop} (aD:RO P gf lb enc Rd Kp Gd S Sp w)
  (aH:∀A B C:World,Kp A B->Kp B C->Kp A C)
  (aI:∀(W:World) (l:Nat) (o o':Obj),w.heap.size<=l->l<w.heap.size+2->W.heap[l]?=some o->o.isCells=false->Kp W (W.putObj l o'))
  (aZ:∀x (W:World) (l:Nat) (o o':Obj),w.heap.size<=l->l<w.heap.size+2->W.heap[l]?=some o->o.isCells=false->Rd x W->Rd x (W.putObj l o'))
  (I:List α->World->Prop) (Ix:Code->List α->World->Prop) (hI:OwnFrom w.heap.size I) (bg:∀s A,I s A->w.heap.size+2<=A.heap.size->Gd A) (aG:∀c,OwnFrom w.heap.size (Ix c)) (h0:I [] w) (a₁:α->Act)
  (ag:∀(l:Nat) (x:α) (W:World) (K:Act->World->Prop),K (a₁ x) W ->
   assign.wpIn (Fence.wide.inRound l) 0 P (Exit.then K (fun _ _ _=>False)) { tmps:=a.tmps.setIfInBounds p (enc x),defers:=[] } W)
  (aA:∀(l:Nat) (pre:List α) (x:α) (W:World),I pre W->Rd x W->Sp (pre++[x])->body.wpIn (Fence.wide.inRound l) 0 P (ownPostK Kp I Ix (pre++[x]) W) (a₁ x) W)
  (az:∀(D:Nat) (xs:List α) (W:World),w.heap.size<=D->S xs->I xs W->W.heap[D]?=some (.deferred (some []))->Q .normal { a with defers:={ target:=.collected D,args:=#[] }::a.defers } W)
  (ax:∀(D:Nat) (c:Code) (pre:List α) (W:World),w.heap.size<=D->Sp pre->Ix c pre W->W.heap[D]?=some (.deferred (some []))->c.wpIn Fence.wide 0 P Q { a with defers:={ target:=.collected D,args:=#[] }::a.defers } W) :
  (Code.rangeFunc g #[p] assign body).wpIn Fence.wide 0 P Q a w:=by
 refine wpIn_rangeFunc fun fn aU=>?_
 show ∃l aJ w₁ d w₁' f args w₂,(Instr.enterLoop fn a.tmps #[p] assign body none).run P w=_/\_;obtain⟨af,aa⟩:∃af:LoopState->Option Code->Loop,af=fun st pe=>{ state:=st,pending:=pe,fn,tmps:=a.tmps,params:=#[p],assign,body,defers:=w.heap.size }:=⟨_,rfl⟩
 obtain⟨W1,au⟩:∃W1,(w.alloc (.deferred (some []))).alloc (.loop (af .ready none))=W1:=⟨_,rfl⟩;have aN:W1.heap[w.heap.size+1]?=some (.loop (af .ready none)):=by
  rw[<-au];have:=World.alloc_heap_new (w.alloc (.deferred (some []))) (.loop (af .ready none));rwa[World.size_alloc] at this
 have aW:W1.heap[w.heap.size]?=some (.deferred (some [])):=by
  rw[<-au];exact(Below.heap_alloc _ _ _ (by simp)).trans (World.alloc_heap_new w _)
 have aT:I [] W1:=by rw[<-au];exact hI.alloc _ (hI.alloc _ h0)
 have aX:Below w.heap.size w W1:=by rw[<-au];exact((Qg _ w).alloc (Qi _) _).alloc (by simp) _
 -- a block at a time: what the iterator's steps leave as it lay
 have kept:∀{A B:World} {k:Nat} {o:Obj},Below A.heap.size A B->A.heap[k]?=some o->B.heap[k]?=some o:=fun hb hk=>(hb.block _ (Array.getElem?_eq_some_iff.1 hk).1).trans hk
 refine⟨w.heap.size+1,[{ target:=.collected w.heap.size,args:=#[] }],W1,{ target:=.fn (.func gf) lb,args:=#[.func (.yield (w.heap.size+1)) #[] #[]] },W1,gf,
  #[.func (.yield (w.heap.size+1)) #[] #[]]++lb,W1,?_,?_,fun _ _=>trivial,?_,fun h=>(by cases h),?_⟩
 ·rw[<-au,aa];exact run_enterLoop_outer _ _ _ _ _
 ·simp only[resolve,hg];simp[go_sem]
 ·simp[invoke,go_sem,eg]
 refine(aD (w.heap.size+1)
  (fun pre W=>I pre W/\W.heap[w.heap.size+1]?=some (.loop (af .ready none))/\W.heap[w.heap.size]?=some (.deferred (some [])))
  (fun pre W=>∃c,Ix c pre W/\W.heap[w.heap.size+1]?=some (.loop (af .done (some c)))/\W.heap[w.heap.size]?=some (.deferred (some [])))
  W1 aX (by rw[<-au];simp)
  (fun s A B ⟨h,hl,hd⟩ hb=>⟨OwnFrom.grows hI s A B h hb,kept hb hl,kept hb hd⟩)
  (fun s A B ⟨c,h,hl,hd⟩ hb=>⟨c,OwnFrom.grows (aG c) s A B h hb,kept hb hl,kept hb hd⟩)
  (fun s A ⟨h,hl,_⟩=>bg s A h (by have:=(Array.getElem?_eq_some_iff.1 hl).1;omega))
  ?_ ⟨aT,aN,aW⟩).mono ?_
 ·rintro pre x W ⟨hi,hl,hd⟩ hx hs;have aL:w.heap.size+1<W.heap.size:=(Array.getElem?_eq_some_iff.1 hl).1;have hy:=run_yield (P:=P) (args:=#[enc x]) hl (by rw[aa];rfl);have hb:=run_beginRound (P:=P) hl (by rw[aa]);obtain⟨W2,ak⟩:∃W2,W.putObj (w.heap.size+1) (.loop { af .ready none with state:=.busy })=W2:=⟨_,rfl⟩;have aM:W2.heap[w.heap.size+1]?=some (.loop { af .ready none with state:=.busy }):=by rw[<-ak];exact World.putObj_heap_same aL
  have aV:W2.heap[w.heap.size]?=some (.deferred (some [])):=by rw[<-ak];exact(World.putObj_heap_other (by omega)).trans hd
  have aP:Kp W W2:=by rw[<-ak];exact aI _ _ _ _ (by omega) (by omega) hl rfl
  have aS:I pre W2:=by rw[<-ak];exact hI.putObj _ hi (by omega) hl rfl
  have aK:Rd x W2:=by rw[<-ak];exact aZ _ _ _ _ _ (by omega) (by omega) hl rfl hx
  -- the round's end,whatever ae it leaves
  have aC:∀(ae:Option Code) (W3:World),KeepsOthers W2 W3->∃W4,(Instr.endRound (w.heap.size+1) ae).run P W3=.ok (.bool ae.isNone) W4 /\
    W4.heap[w.heap.size+1]?=some (.loop (af (if ae.isNone then .ready else .done) ae))/\W4.heap[w.heap.size]?=some (.deferred (some [])) /\
    (∀c,Ix c (pre++[x]) W3->Ix c (pre++[x]) W4)/\(I (pre++[x]) W3->I (pre++[x]) W4)/\Kp W3 W4:=fun ae W3 aB=>by
   have ay:=aB.same _ _ aM rfl;have hr:=run_endRound (P:=P) ae ay;refine⟨_,hr,?_,(World.putObj_heap_other (by omega)).trans (aB.same _ _ aV rfl),fun c hc=>(aG c).putObj _ hc (by omega) ay rfl,fun hc=>hI.putObj _ hc (by omega) ay rfl,aI _ _ _ _ (by omega) (by omega) ay rfl⟩;rw[World.putObj_heap_same (Array.getElem?_eq_some_iff.1 ay).1,aa]
  rw[aa] at hy;have e:(#[p].zip #[enc x]).foldl (fun (t:Array Value) (q:Tmp×Value)=>t.setIfInBounds q.1 q.2) a.tmps=a.tmps.setIfInBounds p (enc x):=by simp
  refine⟨fn,a.tmps.setIfInBounds p (enc x),assign,body,hy.trans (by rw[<-e]),roundIn_of_wpIn aU ?_⟩;refine ag _ x W _ ?_;refine⟨_,hb,?_⟩;rw[ak];refine wpIn_mono (aA _ pre x _ aS aK hs) ?_;rintro e a3 W3 hp;cases e with
  |
   normal =>
   obtain⟨aB,aF,aR⟩:=hp;obtain⟨W4,hr,ah,aj,_,aQ,aO⟩:=aC none W3 aB;exact⟨_,W4,hr,.inl ⟨rfl,⟨aQ aR,ah,aj⟩,aH _ _ _ (aH _ _ _ aP aF) aO⟩⟩
  |
   ret =>
   obtain⟨W4,hr,ah,aj,av,_,_⟩:=aC (some .ret) W3 hp.1;exact⟨_,W4,hr,.inr ⟨rfl,.ret,av _ hp.2,ah,aj⟩⟩
  |
   exit id =>
   obtain⟨W4,hr,ah,aj,av,_,_⟩:=aC (some (.exit id)) W3 hp.1;exact⟨_,W4,hr,.inr ⟨rfl,.exit id,av _ hp.2,ah,aj⟩⟩
  |
   goto t =>
   obtain⟨W4,hr,ah,aj,av,_,_⟩:=aC (some (.goto t)) W3 hp.1;exact⟨_,W4,hr,.inr ⟨rfl,.goto t,av _ hp.2,ah,aj⟩⟩
  |panic ch=>exact hp.elim
  |outgrown=>exact hp.elim
 rintro e W2 ⟨⟨v,rfl⟩,(⟨xs,hS,hi,hl,hd⟩|⟨pre,aY,c,hi,hl,hd⟩)⟩
 ·have hr:=run_endLoop (P:=P) hl (by rw[aa];simp);rw[aa] at hr;exact⟨none,_,hr,az _ xs _ (Qi _) hS (hI.putObj _ hi (by omega) hl rfl) ((World.putObj_heap_other (by omega)).trans hd)⟩
 have hr:=run_endLoop (P:=P) hl (by rw[aa];simp);rw[aa] at hr;exact⟨some c,_,hr,ax _ c pre _ (Qi _) aY ((aG c).putObj _ hi (by omega) hl rfl) ((World.putObj_heap_other (by omega)).trans hd)⟩
structure Y8 (V:World->Nat->Prop) (W W':World):Prop where
 os:W'.os=W.os
 tape:W'.tape=W.tape
 output:W'.output=W.output
 size:W.heap.size<=W'.heap.size
 block:∀k,k<W.heap.size->¬V W k->W'.heap[k]?=W.heap[k]?
 less:∀k,k<W.heap.size->V W' k->V W k
theorem Y8.refl (V:World->Nat->Prop) (W:World):Y8 V W W:=⟨rfl,rfl,rfl,Qi _,fun _ _ _=>rfl,fun _ _ h=>h⟩
theorem Y8.trans {V:World->Nat->Prop} {A B C:World} (h:Y8 V A B) (k:Y8 V B C):Y8 V A C :=
 ⟨k.os.trans h.os,k.tape.trans h.tape,k.output.trans h.output,Qf h.size k.size,
  fun i hi hv=>(k.block i (Qk hi h.size) (fun e=>hv (h.less i hi e))).trans (h.block i hi hv),fun i hi hv=>h.less i hi (k.less i (Qk hi h.size) hv)⟩
def Gdv (V:World->Nat->Prop) (W:World):Prop:=∀W',Below W.heap.size W W'->∀k,V W' k->V W k/\k<W.heap.size
theorem Y8.of_below {V:World->Nat->Prop} {W W':World} (h:Below W.heap.size W W') (hg:Gdv V W):Y8 V W W':=⟨h.os,h.tape,h.output,h.size,fun k hk _=>h.block k hk,fun k _ hv=>(hg W' h k hv).1⟩
theorem Y8.of_grownBy {V:World->Nat->Prop} {W W':World} {row:Option Nat} (h:W.grownBy W' row) (hV:∀k,row=some k->k<W.heap.size->V W k) (hl:∀k,k<W.heap.size->V W' k->V W k):Y8 V W W' :=
 ⟨h.os,h.tape,h.output,h.size,fun k hk hv=>h.block k hk (fun e=>hv (hV k e.symm hk)),hl⟩
theorem Y8.cell {V:World->Nat->Prop} {W W':World} (h:Y8 V W W') {p:Addr} (hp:p.block<W.heap.size) (hv:¬V W p.block):W'.cell? p=W.cell? p:=World.cell?_of_block (h.block _ hp hv)
theorem Y8.same {V:World->Nat->Prop} {W W':World} (h:Y8 V W W'):Go.Proofs.YthpngeboknmllaaGreat.Zr (fun k=>k<W.heap.size/\¬V W k) W W':=fun p hp=>h.cell hp.1 hp.2
theorem Y8.setCell {V:Nat->Prop} (W:World) {p:Addr} (hV:V p.block) (u:Value):Y8 (fun _=>V) W (W.setCell p u) :=
 ⟨rfl,rfl,rfl,by simp[World.setCell],fun k hk hv=>Below.heap_setCell _ _ _ _ (fun e=>hv (e ▸ hV)),fun _ _ h=>h⟩
theorem Y8.putObj {V:Nat->Prop} (W:World) (l:Nat) (o:Obj) (hV:V l):Y8 (fun _=>V) W (W.putObj l o):=Y8.of_grownBy (grownBy_putObj' W l o) (fun k e _=>by cases e;exact hV) (fun _ _ h=>h)
theorem Y8.drewN {V:Nat->Prop} (W:World) (n:Nat):Y8 (fun _=>V) W (W.drewN n):=⟨rfl,rfl,rfl,Qi _,fun _ _ _=>rfl,fun _ _ h=>h⟩
theorem zJk (W:World) (n:Nat):KeepsOthers W (W.drewN n):=⟨Qi _,fun _ _ h _=>h⟩
end Go.Proofs.YthpngeboknmllaaGreat
namespace Go.Proofs.YthpngeboknmllaaGreat
open Go.RowKit
def icmp (a b:Int):Int:=if a<b then -1 else if b<a then 1 else 0
theorem zM0 (a:Int) (w:World):Calls Tryz.prog 167 #[.int .i64 a] w fun e w'=>e=.returned (.bool false)/\w=w':=by
 go_enter Tryz.func167,Tryz.ntmps167
 go_wp2
 go_ret;exact⟨by simp,rfl⟩
theorem Us (a b:Int) (w:World):Calls Tryz.prog 148 #[.int .i64 a,.int .i64 b] w fun e w'=>e=.returned (.int .i64 (icmp a b))/\w=w':=by
 by_cases h1:a<b
 ·have HF:Hid (icmp a b=-1):=by show _=_;rw[icmp,if_pos h1]
  go_enter Tryz.func148,Tryz.ntmps148
  go_wp2_with (go_at_call 167;refine(zM0 _ _).mono ?_;rintro e w' ⟨rfl,rfl⟩)
  go_ret;exact⟨by rw[HF.out];rfl,rfl⟩
 by_cases h2:b<a
 ·have HF:Hid (icmp a b=1):=by show _=_;rw[icmp,if_neg h1,if_pos h2]
  have d1:decide (a<b)=false:=by simpa using h1
  go_enter Tryz.func148,Tryz.ntmps148
  go_wp2_with (go_at_call 167;refine(zM0 _ _).mono ?_;rintro e w' ⟨rfl,rfl⟩)
  go_ret;exact⟨by rw[HF.out];rfl,rfl⟩
 have HF:Hid (icmp a b=0):=by show _=_;rw[icmp,if_neg h1,if_neg h2]
 have d1:decide (a<b)=false:=by simpa using h1
 have d2:decide (b<a)=false:=by simpa using h2
 go_enter Tryz.func148,Tryz.ntmps148
 go_wp2_with (go_at_call 167;refine(zM0 _ _).mono ?_;rintro e w' ⟨rfl,rfl⟩)
 go_ret;exact⟨by rw[HF.out];rfl,rfl⟩
theorem SB {a b:Int} {l r:List Int} (h:icmp a b≠0):ZX (a::l) (b::r)=icmp a b:=by
 unfold icmp at *;rw[ZX];split<;>simp_all
theorem SA {a b:Int} {l r:List Int} (h:icmp a b=0):ZX (a::l) (b::r)=ZX l r:=by
 unfold icmp at h;rw[ZX];by_cases h1:a<b
 ·rw[if_pos h1] at h;omega
 by_cases h2:b<a
 ·rw[if_neg h1,if_pos h2] at h;omega
 rw[if_neg h1,if_neg h2]
theorem RA (xs ys:List Int) (w:World) (a b:Value) (B B':Nat->Prop) (ha:Z0 w B xs a) (hb:Z0 w B' ys b) :
  Calls Tryz.prog 119 #[a,b] w fun e w'=>e=.returned (.int .i64 (ZX xs ys))/\w=w':=by
 obtain⟨A,cap,rs,rfl,ay,ah,ak,au⟩:=ha;obtain⟨A',cap',aj,rfl,ax,af,ae,ag⟩:=hb;unfold maxLen at ah af;have hl1:xs.length<=9223372036854775807:=by omega
 have hl2:ys.length<=9223372036854775807:=by omega
 have H:Hid ((Zd w B A rs/\ZG ZA w B xs rs)/\(Zd w B' A' aj/\ZG ZA w B' ys aj)):=⟨⟨ak,au⟩,⟨ae,ag⟩⟩;clear ak au ae ag;go_enter Tryz.func119,Tryz.ntmps119
 go_wp2
 go_loop [11] (fun i=>∃(k:Nat),k<=xs.length/\k<=ys.length/\i=.int .i64 k/\ZX (xs.drop k) (ys.drop k)=ZX xs ys) (fun i=>xs.length-(intOf i).toNat)
 case atStart=>exact⟨0,Qj _,Qj _,rfl,rfl⟩
 obtain⟨k,hk,hk',rfl,aa⟩:=hrel;have HR:=hid aa;clear aa;by_cases hx:k<xs.length
 ·obtain⟨g,o,rfl,hg,hi,c0⟩:=X5 H.out.1.1 H.out.1.2 hx;have i1:(k:Int)<(xs.length:Int):=by omega
  by_cases hy:k<ys.length
  ·obtain⟨g',o',rfl,hg',hi',c0'⟩:=X5 H.out.2.1 H.out.2.2 hy;have i2:(k:Int)<(ys.length:Int):=by omega
   have i3:decide ((ys.length:Int)<=(k:Int))=false:=by simp;omega
   by_cases h0:icmp xs[k] ys[k]=0
   ·have HF:Hid (ZX (xs.drop k) (ys.drop k)=ZX (xs.drop (k+1)) (ys.drop (k+1))):=by show _=_;rw[List.drop_eq_getElem_cons hx,List.drop_eq_getElem_cons hy,SA h0]
    go_wp2_with (go_at_call 148;refine(Us _ _ _).mono ?_;rintro e w' ⟨rfl,rfl⟩)
    go_round
    case rel=>exact⟨k+1,by omega,by omega,by go_num,by rw[<-HR.out,HF.out]⟩
    case measure=>simp[intOf];omega
   have HF:Hid (ZX (xs.drop k) (ys.drop k)=icmp xs[k] ys[k]):=by show _=_;rw[List.drop_eq_getElem_cons hx,List.drop_eq_getElem_cons hy,SB h0]
   have h1:(!(icmp xs[k] ys[k]==0))=true:=by simpa using h0
   have HC:Hid (∀W,Calls Tryz.prog 148 #[.int .i64 xs[k],.int .i64 ys[k]] W fun e w'=>e=.returned (.int .i64 (icmp xs[k] ys[k]))/\W=w'):=fun W=>Us _ _ W
   generalize icmp xs[k] ys[k]=c at *
   go_wp2_with (go_at_call 148;refine(HC.out _).mono ?_;rintro e w' ⟨rfl,rfl⟩)
   go_ret;exact⟨by rw[<-HR.out,HF.out];rfl,rfl⟩
  have HF:Hid (ZX (xs.drop k) (ys.drop k)=1):=by show _=_;rw[List.drop_eq_getElem_cons hx,List.drop_of_length_le (show ys.length<=k by omega),ZX]
  have i3:decide ((ys.length:Int)<=(k:Int))=true:=by simp;omega
  go_wp2
  go_ret;exact⟨by rw[<-HR.out,HF.out];rfl,rfl⟩
 have av:k=xs.length:=by omega
 by_cases hy:k<ys.length
 ·have HF:Hid (ZX (xs.drop k) (ys.drop k)=-1):=by show _=_;rw[List.drop_of_length_le (show xs.length<=k by omega),List.drop_eq_getElem_cons hy,ZX]
  have e1:decide ((xs.length:Int)<(ys.length:Int))=true:=by simp;omega
  clear av
  go_wp2
  go_ret;exact⟨by rw[<-HR.out,HF.out];rfl,rfl⟩
 have HF:Hid (ZX (xs.drop k) (ys.drop k)=0):=by show _=_;rw[List.drop_of_length_le (show xs.length<=k by omega),List.drop_of_length_le (show ys.length<=k by omega),ZX]
 have e1:decide ((xs.length:Int)<(ys.length:Int))=false:=by simp;omega
 clear av
 go_wp2
 go_ret;exact⟨by rw[<-HR.out,HF.out];rfl,rfl⟩
abbrev zTb:Array Value:=#[.int .i64 0,.slice none 0 0,.int .i64 0,.int .i64 0,.slice none 0 0,.int .i64 0,.string ⟨#[]⟩,.string ⟨#[]⟩,.int .i64 0,.int .i64 0,.bool false,.int .i64 0,.slice none 0 0]
def XQ (op:ZL) (pos:List Int):Xv :=
 if op.row.length+1<pos.length then ⟨op,op.nodes.length,pos.getD op.row.length 0,true,pos.getD (op.row.length+1) 0,pos.drop (op.row.length+2)⟩
 else ⟨op,op.nodes.length,pos.getD op.row.length 0,false,0,[]⟩
theorem TP (w:World) (o:Obj) (n:Nat):(w.alloc o).drewN n=(w.drewN n).alloc o:=rfl
theorem Q7 (op:ZL) (pos:List Int) (vr vn vp:Value) (Ar An Ap:Option Addr) (cr cn cp:Nat) (w:World) (ak:op.Ok) (hr:Z0 w (Lt w.heap.size) op.row (.slice Ar op.row.length cr)) (af:Z0 w (Lt w.heap.size) pos (.slice Ap pos.length cp)) (hpl:pos.length<=100000)
  (hw:Xu pos op.row=false) :
  Calls Tryz.prog 96 #[.agg (Zm op (.slice Ar op.row.length cr) (.slice An op.nodes.length cn)),.slice Ap pos.length cp] w
   fun e w'=>e=.returned (.tuple #[.agg zTb,.bool false])/\Below w.heap.size w w':=by
 obtain⟨hat,hn,ag,hnl,hrl⟩:=ak;have hc1:pos.length<=cp:=by obtain⟨A,cap,cs,e,h1,_⟩:=af;injection e with _ _ e3;omega
 obtain⟨kind,row,at_,n,nodes,slot,old,text⟩:=op;simp only[Zm] at *;by_cases h1:pos.length<=row.length
 ·go_enter Tryz.func96,Tryz.ntmps96
  go_wp2_with fail
  go_quiet (fail)
  rw[TP,TP];generalize aa:w.drewN nq=w0;have ae:w0.heap.size=w.heap.size:=by rw[<-aa];rfl
  have HB:Hid (Below w.heap.size w w0):=by rw[<-aa];exact YP (Qg _ _) _
  clear aa
  go_wp2_with fail
  refine bodyPost_ret (v:=.tuple #[.agg #[.int .i64 0,.slice none 0 0,.int .i64 0,.int .i64 0,.slice none 0 0,.int .i64 0,.string ⟨#[]⟩,.string ⟨#[]⟩,.int .i64 0,.int .i64 0,.bool false,.int .i64 0,.slice none 0 0],.bool false]) (by simp[results,Tryz.results96,go_sem,ae]) rfl ?_;exact⟨rfl,HB.out.trans (((Zx _ _).trans ((Zx _ _).mono (by simp))).mono (by omega))⟩
 have e1:decide (pos.length<=row.length)=false:=by simpa using h1
 have hw1:IntKind.i64.wrap ((row.length:Int)+2)=(row.length:Int)+2:=IntWalk.i64_in _ (by omega);by_cases h2:pos.length=row.length+2
 ·have e2:((pos.length:Int)==(row.length:Int)+2)=true:=by simp;omega
  clear h2 h1;go_enter Tryz.func96,Tryz.ntmps96
  go_wp2_with fail
  go_quiet (fail)
  rw[TP,TP];generalize aa:w.drewN nq=w0;have ae:w0.heap.size=w.heap.size:=by rw[<-aa];rfl
  have HB:Hid (Below w.heap.size w w0):=by rw[<-aa];exact YP (Qg _ _) _
  clear aa
  go_wp2_with fail
  refine bodyPost_ret (v:=.tuple #[.agg #[.int .i64 0,.slice none 0 0,.int .i64 0,.int .i64 0,.slice none 0 0,.int .i64 0,.string ⟨#[]⟩,.string ⟨#[]⟩,.int .i64 0,.int .i64 0,.bool false,.int .i64 0,.slice none 0 0],.bool false]) (by simp[results,Tryz.results96,go_sem,ae]) rfl ?_;exact⟨rfl,HB.out.trans (((Zx _ _).trans ((Zx _ _).mono (by simp))).mono (by omega))⟩
 have e2:((pos.length:Int)==(row.length:Int)+2)=false:=by simp;omega
 have ah:pos.take row.length≠row:=by
  intro h;have:Xu pos row=true:=by unfold Xu;exact decide_eq_true ⟨by omega,h,h2⟩
  rw[this] at hw;cases hw
 obtain⟨A1,hsl,hcut⟩:=RV ZA Tryz.underlying25 WO Ap pos.length cp row.length row.length rfl (by omega) hc1;have hd:decide (pos.take row.length=row)=false:=decide_eq_false ah;have o1:=Obj.cells #[.int .i64 kind,.slice Ar row.length cr,.int .i64 at_,.int .i64 n,.slice An nodes.length cn,.int .i64 slot,.string old,.string text] 49;have aj:∀W,Below w.heap.size w W->Calls Tryz.prog 120 #[.slice A1 row.length cp,.slice Ar row.length cr] W fun e w'=>e=.returned (.bool false)/\∃n,w'=W.drewN n:=by
  intro W hW;have:=zS7 (pos.take row.length) row W _ _ _ _ ((hcut _ _ _ af).below hW (Qi _)) (hr.below hW (Qi _));rw[hd] at this;exact this
 have HE:=hid aj;have hr1:(row.length:Int)<=(pos.length:Int):=by omega
 clear ah h2 h1 hcut hd aj o1;go_enter Tryz.func96,Tryz.ntmps96
 go_wp2_with fail
 go_quiet ((go_at_call 120;exact Calls.quiet_of (HE.out _ (YP (((Zx _ _).trans ((Zx _ _).mono (by simp)))) _))))
 rw[TP,TP];generalize aa:w.drewN nq=w0;have ae:w0.heap.size=w.heap.size:=by rw[<-aa];rfl
 have HB:Hid (Below w.heap.size w w0):=by rw[<-aa];exact YP (Qg _ _) _
 clear aa
 go_wp2_with fail
 refine bodyPost_ret (v:=.tuple #[.agg #[.int .i64 0,.slice none 0 0,.int .i64 0,.int .i64 0,.slice none 0 0,.int .i64 0,.string ⟨#[]⟩,.string ⟨#[]⟩,.int .i64 0,.int .i64 0,.bool false,.int .i64 0,.slice none 0 0],.bool false]) (by simp[results,Tryz.results96,go_sem,ae]) rfl ?_;exact⟨rfl,HB.out.trans (((Zx _ _).trans ((Zx _ _).mono (by simp))).mono (by omega))⟩
def zVv (op:ZL) (p:Xv) (vr vn:Value) (w:World) (e:Ending) (w':World):Prop :=
 ∃As cs,e=.returned (.tuple #[.agg (Xq p vr vn (.slice As p.rest.length cs)),.bool true])/\Z0 w' (Lt w'.heap.size) p.rest (.slice As p.rest.length cs)/\Below w.heap.size w w'
set_option maxRecDepth 100000 in
theorem Ux (op:ZL) (pos:List Int) (Ar An Ap:Option Addr) (cr cn cp:Nat) (w:World) (hop:op.Ok) (hr:Z0 w (Lt w.heap.size) op.row (.slice Ar op.row.length cr)) (hpos:Z0 w (Lt w.heap.size) pos (.slice Ap pos.length cp)) (hpl:pos.length<=100000)
  (hw:Xu pos op.row=true) (hlen:pos.length=op.row.length+1) (x:Int) (hx:pos[op.row.length]?=some x) :
  Calls Tryz.prog 96 #[.agg (Zm op (.slice Ar op.row.length cr) (.slice An op.nodes.length cn)),.slice Ap pos.length cp] w
   (zVv op ⟨op,op.nodes.length,x,false,0,[]⟩ (.slice Ar op.row.length cr) (.slice An op.nodes.length cn) w):=by
 obtain⟨hat,hn,hslot,hnl,hrl⟩:=hop
 have hc1:pos.length<=cp:=by obtain⟨A,cap,cs,e,h1,_⟩:=hpos;injection e with _ _ e3;omega
 obtain⟨kind,row,at_,n,nodes,slot,old,text⟩:=op
 simp only[Zm] at *
 have hte:pos.take row.length=row:=by unfold Xu at hw;simp only[decide_eq_true_eq] at hw;exact hw.2.1
 obtain⟨A1,hsl,hcut⟩:=RV ZA Tryz.underlying25 WO Ap pos.length cp row.length row.length rfl (by omega) hc1
 have hd:decide (pos.take row.length=row)=true:=decide_eq_true hte
 have heq:∀W,Below w.heap.size w W->Calls Tryz.prog 120 #[.slice A1 row.length cp,.slice Ar row.length cr] W fun e w'=>e=.returned (.bool true)/\∃n,w'=W.drewN n:=by
  intro W hW
  have:=zS7 (pos.take row.length) row W _ _ _ _ ((hcut _ _ _ hpos).below hW (Nat.le_refl _)) (hr.below hW (Nat.le_refl _))
  rw[hd] at this
  exact this
 have HE:=hid heq
 obtain⟨A,cap,rs,e,h1,h2,hrd,hls⟩:=hpos
 injection e with q1 q2 q3
 subst q1 q3
 have hlt:row.length<pos.length:=by omega
 obtain⟨g,o,rfl,hg,hi,c0⟩:=X5 hrd hls hlt
 obtain rfl:pos[row.length]=x:=by rw[List.getElem?_eq_getElem hlt] at hx;exact Option.some.inj hx
 have hg':g<w.heap.size:=hg
 have e1:decide (pos.length<=row.length)=false:=by simp;omega
 have e2:((pos.length:Int)==(row.length:Int)+2)=false:=by simp;omega
 have e3:decide (row.length+1<pos.length)=false:=by simp;omega
 have e4:decide ((row.length:Int)+1<(pos.length:Int))=false:=by simp;omega
 have hw1:IntKind.i64.wrap ((row.length:Int)+2)=(row.length:Int)+2:=IntWalk.i64_in _ (by omega)
 have hr1:(row.length:Int)<=(pos.length:Int):=by omega
 have hr2:(row.length:Int)<(pos.length:Int):=by omega
 have HX:=hid hx
 have HL:=hid hlen
 clear hte hcut hd heq hrd hls hx hlen hw hg hi q2 h1 h2 hat hn hslot hpl hr
 go_enter Tryz.func96,Tryz.ntmps96
 go_wp2_with fail
 go_quiet ((go_at_call 120;exact Calls.quiet_of (HE.out _ (YP (((Zx _ _).trans ((Zx _ _).mono (by simp)))) _))))
 rw[TP,TP]
 generalize hw0:w.drewN nq=w0
 have hz0:w.heap.size=w0.heap.size:=by rw[<-hw0];rfl
 have HB:Hid (Below w.heap.size w w0):=by rw[<-hw0];exact YP (Below.refl _ _) _
 have c1:w0.cell? ⟨g,o+row.length,none⟩=some (.int .i64 pos[row.length]):=by rw[<-hw0];exact c0
 rw[hz0] at hg'
 rw[hz0]
 have n1:g<w0.heap.size+1:=by omega
 have n2:g<w0.heap.size+1+1:=by omega
 clear hw0 c0 HE hz0
 go_wp2_with fail
 go_region
 go_wp2_with fail
 refine bodyPost_ret (v:=.tuple #[.agg #[.int .i64 kind,.slice Ar row.length cr,.int .i64 at_,.int .i64 n,.slice An nodes.length cn,.int .i64 slot,.string old,.string text,.int .i64 nodes.length,.int .i64 pos[row.length],.bool false,.int .i64 0,.slice none 0 0],.bool true]) (by simp[results,Tryz.results96,go_sem]) rfl ?_
 exact⟨none,0,rfl,Z8.nil_ 0 (by simp) none,HB.out.trans ((Below.drew (((Zx _ _).trans ((Zx _ _).mono (by simp))).trans ((Zx _ _).mono (by simp;omega)))).mono HB.out.size)⟩
def Wp (op:ZL) (i s:Int) (r:List Int):List Int :=
 if i<op.at_ then [i]++[s]++r
 else if op.kind=1 then [i+op.nodes.length]++[s]++r
 else if op.kind=2 then (if i<op.at_+op.nodes.length then [op.at_] else [i-op.nodes.length]++[s]++r)
 else if op.kind=3 then (if i<op.at_+op.n then [op.at_,op.slot,i-op.at_]++[s]++r else [i-op.n+1]++[s]++r)
 else if op.kind=4/\i=op.at_ then (if s<op.slot then [op.at_] else if op.slot<s then [op.at_+op.n] else (op.at_+r.headD 0)::r.tail)
 else if op.kind=4 then [i-1+op.n]++[s]++r
 else [i]++[s]++r
def TV (op:ZL) (pos:List Int) (after:Bool):List Int :=
 if Xu pos op.row=true then
  (if pos.length=op.row.length+1 then op.row++Wu op (pos.getD op.row.length 0) after else op.row++Wp op (pos.getD op.row.length 0) (pos.getD (op.row.length+1) 0) (pos.drop (op.row.length+2)))
 else pos
theorem zUr (p:Xv) (after:Bool) (Ar An As:Option Addr) (lr cr ln cn cs:Nat) (w:World) (hp:p.Ok) (hs:Z0 w (Lt w.heap.size) p.rest (.slice As p.rest.length cs)) :
  Calls Tryz.prog 129 #[.agg (Xq p (.slice Ar lr cr) (.slice An ln cn) (.slice As p.rest.length cs)),.bool after] w (zGi w (WL p after)):=by
 have H:=hid (Qh hp hs);obtain⟨aB,hn,ah,hk,au,av,ak,aj,ax⟩:=hp;unfold Bd at aB hn ah au av;obtain⟨aI,aH⟩:=aB;obtain⟨az,ay⟩:=au;obtain⟨hn1,hn2⟩:=hn;obtain⟨aD,aC⟩:=ah;obtain⟨hs1,hs2⟩:=av;have aF:=hid ax;clear ak aj ax hs;obtain⟨⟨kind,row,at_,n,nodes,aa,old,text⟩,k,index,inside,slot,rest⟩:=p;simp only[Xq] at *;rcases Int.lt_trichotomy index at_ with aG|aA|hgt
 ·have ae:WL ⟨⟨kind,row,at_,n,nodes,aa,old,text⟩,k,index,inside,slot,rest⟩ after=YO ⟨⟨kind,row,at_,n,nodes,aa,old,text⟩,k,index,inside,slot,rest⟩ [index]:=by unfold WL;rw[if_pos (Or.inl aG)]
  have HF:=hid ae;clear ae;go_enter Tryz.func129,Tryz.ntmps129
  go_wp2_with fail
  refine(X3 _ Ar An As lr cr ln cn cs w _ H.out.1 H.out.2 (by first|exact Zx _ _|exact YP (Zx _ _) _) [index] (by intro x hx;simp only[List.mem_cons,List.not_mem_nil,or_false] at hx;rcases hx with rfl<;>(apply Yn<;>omega)) (by simp) _ _ rfl (by simp) _ rfl).mono ?_;rintro e w1 ⟨v1,rfl,af,ag⟩;have HV:=hid af;have HB:=hid ag;clear af ag
  go_wp2_with fail
  go_ret;rw[HF.out];exact⟨_,rfl,HV.out,HB.out⟩
 ·subst aA;cases inside with
  |
   false =>
   cases after with
   |
    false =>
    have ae:WL ⟨⟨kind,row,index,n,nodes,aa,old,text⟩,k,index,false,slot,rest⟩ false=YO ⟨⟨kind,row,index,n,nodes,aa,old,text⟩,k,index,false,slot,rest⟩ [index]:=by unfold WL;rw[if_pos (Or.inr ⟨rfl,rfl,rfl⟩)]
    have HF:=hid ae;clear ae;go_enter Tryz.func129,Tryz.ntmps129
    go_wp2_with fail
    refine(X3 _ Ar An As lr cr ln cn cs w _ H.out.1 H.out.2 (by first|exact Zx _ _|exact YP (Zx _ _) _) [index] (by intro x hx;simp only[List.mem_cons,List.not_mem_nil,or_false] at hx;rcases hx with rfl<;>(apply Yn<;>omega)) (by simp) _ _ rfl (by simp) _ rfl).mono ?_;rintro e w1 ⟨v1,rfl,af,ag⟩;have HV:=hid af;have HB:=hid ag;clear af ag
    go_wp2_with fail
    go_ret;rw[HF.out];exact⟨_,rfl,HV.out,HB.out⟩
   |
    true =>
    have ae:WL ⟨⟨kind,row,index,n,nodes,aa,old,text⟩,k,index,false,slot,rest⟩ true=YO ⟨⟨kind,row,index,n,nodes,aa,old,text⟩,k,index,false,slot,rest⟩ [index+k]:=by unfold WL;rw[if_neg (by simp)]
    have HF:=hid ae;clear ae;go_enter Tryz.func129,Tryz.ntmps129
    go_wp2_with fail
    refine(X3 _ Ar An As lr cr ln cn cs w _ H.out.1 H.out.2 (by first|exact Zx _ _|exact YP (Zx _ _) _) [index+k] (by intro x hx;simp only[List.mem_cons,List.not_mem_nil,or_false] at hx;rcases hx with rfl<;>(apply Yn<;>omega)) (by simp) _ _ rfl (by simp) _ rfl).mono ?_;rintro e w1 ⟨v1,rfl,af,ag⟩;have HV:=hid af;have HB:=hid ag;clear af ag
    go_wp2_with fail
    go_ret;rw[HF.out];exact⟨_,rfl,HV.out,HB.out⟩
  |
   true =>
   have ae:WL ⟨⟨kind,row,index,n,nodes,aa,old,text⟩,k,index,true,slot,rest⟩ after=YO ⟨⟨kind,row,index,n,nodes,aa,old,text⟩,k,index,true,slot,rest⟩ [index+k]:=by unfold WL;rw[if_neg (by simp)]
   have HF:=hid ae;clear ae;go_enter Tryz.func129,Tryz.ntmps129
   go_wp2_with fail
   refine(X3 _ Ar An As lr cr ln cn cs w _ H.out.1 H.out.2 (by first|exact Zx _ _|exact YP (Zx _ _) _) [index+k] (by intro x hx;simp only[List.mem_cons,List.not_mem_nil,or_false] at hx;rcases hx with rfl<;>(apply Yn<;>omega)) (by simp) _ _ rfl (by simp) _ rfl).mono ?_;rintro e w1 ⟨v1,rfl,af,ag⟩;have HV:=hid af;have HB:=hid ag;clear af ag
   go_wp2_with fail
   go_ret;rw[HF.out];exact⟨_,rfl,HV.out,HB.out⟩
 have aA:(index==at_)=false:=by simp;omega
 have ae:WL ⟨⟨kind,row,at_,n,nodes,aa,old,text⟩,k,index,inside,slot,rest⟩ after=YO ⟨⟨kind,row,at_,n,nodes,aa,old,text⟩,k,index,inside,slot,rest⟩ [index+k]:=by unfold WL;rw[if_neg (by simp;omega)]
 have HF:=hid ae;clear ae;go_enter Tryz.func129,Tryz.ntmps129
 go_wp2_with fail
 refine(X3 _ Ar An As lr cr ln cn cs w _ H.out.1 H.out.2 (by first|exact Zx _ _|exact YP (Zx _ _) _) [index+k] (by intro x hx;simp only[List.mem_cons,List.not_mem_nil,or_false] at hx;rcases hx with rfl<;>(apply Yn<;>omega)) (by simp) _ _ rfl (by simp) _ rfl).mono ?_;rintro e w1 ⟨v1,rfl,af,ag⟩;have HV:=hid af;have HB:=hid ag;clear af ag
 go_wp2_with fail
 go_ret;rw[HF.out];exact⟨_,rfl,HV.out,HB.out⟩
theorem zUi (p:Xv) (Ar An As:Option Addr) (lr cr ln cn cs:Nat) (w:World) (hp:p.Ok) (hs:Z0 w (Lt w.heap.size) p.rest (.slice As p.rest.length cs)) :
  Calls Tryz.prog 130 #[.agg (Xq p (.slice Ar lr cr) (.slice An ln cn) (.slice As p.rest.length cs))] w (zSd w (Xf p)):=by
 have H:=hid (Qh hp hs);obtain⟨aC,hn,ah,hk,av,ax,au,ak,ay⟩:=hp;unfold Bd at aC hn ah av ax;obtain⟨aJ,aI⟩:=aC;obtain⟨aA,az⟩:=av;obtain⟨hn1,hn2⟩:=hn;obtain⟨aF,aD⟩:=ah;obtain⟨hs1,hs2⟩:=ax;have aG:=hid ay;clear au ak ay hs;obtain⟨⟨kind,row,at_,n,nodes,ae,old,text⟩,k,index,inside,slot,rest⟩:=p;simp only[Xq] at *;rcases Int.lt_trichotomy index at_ with aH|aB|hgt
 ·have aa:Xf ⟨⟨kind,row,at_,n,nodes,ae,old,text⟩,k,index,inside,slot,rest⟩=(YO ⟨⟨kind,row,at_,n,nodes,ae,old,text⟩,k,index,inside,slot,rest⟩ [index],false):=by unfold Xf;rw[if_pos (Or.inl aH)]
  have HF:=hid aa;clear aa;go_enter Tryz.func130,Tryz.ntmps130
  go_wp2_with fail
  refine(X3 _ Ar An As lr cr ln cn cs w _ H.out.1 H.out.2 (by first|exact Zx _ _|exact YP (Zx _ _) _) [index] (by intro x hx;simp only[List.mem_cons,List.not_mem_nil,or_false] at hx;rcases hx with rfl<;>(apply Yn<;>omega)) (by simp) _ _ rfl (by simp) _ rfl).mono ?_;rintro e w1 ⟨v1,rfl,af,ag⟩;have HV:=hid af;have HB:=hid ag;clear af ag
  go_wp2_with fail
  go_ret2
  rw[HF.out];exact⟨_,rfl,HV.out,HB.out⟩
 ·subst aB;cases inside with
  |
   false =>
   have aa:Xf ⟨⟨kind,row,index,n,nodes,ae,old,text⟩,k,index,false,slot,rest⟩=(YO ⟨⟨kind,row,index,n,nodes,ae,old,text⟩,k,index,false,slot,rest⟩ [index],false):=by unfold Xf;rw[if_pos (Or.inr ⟨rfl,rfl⟩)]
   have HF:=hid aa;clear aa;go_enter Tryz.func130,Tryz.ntmps130
   go_wp2_with fail
   refine(X3 _ Ar An As lr cr ln cn cs w _ H.out.1 H.out.2 (by first|exact Zx _ _|exact YP (Zx _ _) _) [index] (by intro x hx;simp only[List.mem_cons,List.not_mem_nil,or_false] at hx;rcases hx with rfl<;>(apply Yn<;>omega)) (by simp) _ _ rfl (by simp) _ rfl).mono ?_;rintro e w1 ⟨v1,rfl,af,ag⟩;have HV:=hid af;have HB:=hid ag;clear af ag
   go_wp2_with fail
   go_ret2
   rw[HF.out];exact⟨_,rfl,HV.out,HB.out⟩
  |
   true =>
   by_cases aj:index<index+(k:Int)
   ·have aa:Xf ⟨⟨kind,row,index,n,nodes,ae,old,text⟩,k,index,true,slot,rest⟩=([index],true):=by unfold Xf;rw[if_neg (by simp),if_pos aj]
    have hd:decide (index<index+(k:Int))=true:=by simpa using aj
    have HF:=hid aa;clear aa;go_enter Tryz.func130,Tryz.ntmps130
    go_wp2_with fail
    go_ret2
    rw[HF.out];exact⟨_,rfl,zSb (by first|exact Zx _ _|exact YP (Zx _ _) _) [index] (by intro x hx;simp only[List.mem_cons,List.not_mem_nil,or_false] at hx;rcases hx with rfl<;>(apply Yn<;>omega)) (by simp) _ _ rfl (by simp) _ rfl⟩
   have aa:Xf ⟨⟨kind,row,index,n,nodes,ae,old,text⟩,k,index,true,slot,rest⟩=(YO ⟨⟨kind,row,index,n,nodes,ae,old,text⟩,k,index,true,slot,rest⟩ [index-k],false):=by unfold Xf;rw[if_neg (by simp),if_neg aj]
   have hd:decide (index<index+(k:Int))=false:=by simpa using aj
   have HF:=hid aa;clear aa;go_enter Tryz.func130,Tryz.ntmps130
   go_wp2_with fail
   refine(X3 _ Ar An As lr cr ln cn cs w _ H.out.1 H.out.2 (by first|exact Zx _ _|exact YP (Zx _ _) _) [index-k] (by intro x hx;simp only[List.mem_cons,List.not_mem_nil,or_false] at hx;rcases hx with rfl<;>(apply Yn<;>omega)) (by simp) _ _ rfl (by simp) _ rfl).mono ?_;rintro e w1 ⟨v1,rfl,af,ag⟩;have HV:=hid af;have HB:=hid ag;clear af ag
   go_wp2_with fail
   go_ret2
   rw[HF.out];exact⟨_,rfl,HV.out,HB.out⟩
 have aB:(index==at_)=false:=by simp;omega
 by_cases aj:index<at_+(k:Int)
 ·have aa:Xf ⟨⟨kind,row,at_,n,nodes,ae,old,text⟩,k,index,inside,slot,rest⟩=([at_],true):=by unfold Xf;rw[if_neg (by simp;omega),if_pos aj]
  have HF:=hid aa;clear aa;go_enter Tryz.func130,Tryz.ntmps130
  go_wp2_with fail
  go_ret2
  rw[HF.out];exact⟨_,rfl,zSb (by first|exact Zx _ _|exact YP (Zx _ _) _) [at_] (by intro x hx;simp only[List.mem_cons,List.not_mem_nil,or_false] at hx;rcases hx with rfl<;>(apply Yn<;>omega)) (by simp) _ _ rfl (by simp) _ rfl⟩
 have aa:Xf ⟨⟨kind,row,at_,n,nodes,ae,old,text⟩,k,index,inside,slot,rest⟩=(YO ⟨⟨kind,row,at_,n,nodes,ae,old,text⟩,k,index,inside,slot,rest⟩ [index-k],false):=by unfold Xf;rw[if_neg (by simp;omega),if_neg aj]
 have HF:=hid aa;clear aa;go_enter Tryz.func130,Tryz.ntmps130
 go_wp2_with fail
 refine(X3 _ Ar An As lr cr ln cn cs w _ H.out.1 H.out.2 (by first|exact Zx _ _|exact YP (Zx _ _) _) [index-k] (by intro x hx;simp only[List.mem_cons,List.not_mem_nil,or_false] at hx;rcases hx with rfl<;>(apply Yn<;>omega)) (by simp) _ _ rfl (by simp) _ rfl).mono ?_;rintro e w1 ⟨v1,rfl,af,ag⟩;have HV:=hid af;have HB:=hid ag;clear af ag
 go_wp2_with fail
 go_ret2
 rw[HF.out];exact⟨_,rfl,HV.out,HB.out⟩
theorem zUg (p:Xv) (Ar An As:Option Addr) (lr cr ln cn cs:Nat) (w:World) (hp:p.Ok) (hs:Z0 w (Lt w.heap.size) p.rest (.slice As p.rest.length cs)) :
  Calls Tryz.prog 132 #[.agg (Xq p (.slice Ar lr cr) (.slice An ln cn) (.slice As p.rest.length cs))] w (zSd w (Xg p)):=by
 have H:=hid (Qh hp hs);obtain⟨aC,hn,ah,hk,au,ay,ak,aj,az⟩:=hp;unfold Bd at aC hn ah au ay;obtain⟨aK,aJ⟩:=aC;obtain⟨aB,aA⟩:=au;obtain⟨hn1,hn2⟩:=hn;obtain⟨aF,aD⟩:=ah;obtain⟨hs1,hs2⟩:=ay;have av:=hid az;clear ak aj az hs;obtain⟨⟨kind,row,at_,n,nodes,ae,old,text⟩,k,index,inside,slot,rest⟩:=p;simp only[Xq] at *;rcases Int.lt_trichotomy index at_ with aH|ax|aI
 ·have ax:(index==at_)=false:=by simp;omega
  have aa:Xg ⟨⟨kind,row,at_,n,nodes,ae,old,text⟩,k,index,inside,slot,rest⟩=(YO ⟨⟨kind,row,at_,n,nodes,ae,old,text⟩,k,index,inside,slot,rest⟩ [index],false):=by unfold Xg;rw[if_pos (Or.inl aH)]
  cases inside
  ·skip
   have HF:=hid aa;clear aa;go_enter Tryz.func132,Tryz.ntmps132
   go_wp2_with fail
   go_quiet (fail)
   go_wp2_with fail
   refine(X3 _ Ar An As lr cr ln cn cs w _ H.out.1 H.out.2 (by first|exact Zx _ _|exact YP (Zx _ _) _) [index] (by intro x hx;simp only[List.mem_cons,List.not_mem_nil,or_false] at hx;rcases hx with rfl<;>(apply Yn<;>omega)) (by simp) _ _ rfl (by simp) _ rfl).mono ?_;rintro e w1 ⟨v1,rfl,af,ag⟩;have HV:=hid af;have HB:=hid ag;clear af ag
   go_wp2_with fail
   go_ret2
   rw[HF.out];exact⟨_,rfl,HV.out,HB.out⟩
  skip
  have HF:=hid aa;clear aa;go_enter Tryz.func132,Tryz.ntmps132
  go_wp2_with fail
  go_quiet (fail)
  go_wp2_with fail
  refine(X3 _ Ar An As lr cr ln cn cs w _ H.out.1 H.out.2 (by first|exact Zx _ _|exact YP (Zx _ _) _) [index] (by intro x hx;simp only[List.mem_cons,List.not_mem_nil,or_false] at hx;rcases hx with rfl<;>(apply Yn<;>omega)) (by simp) _ _ rfl (by simp) _ rfl).mono ?_;rintro e w1 ⟨v1,rfl,af,ag⟩;have HV:=hid af;have HB:=hid ag;clear af ag
  go_wp2_with fail
  go_ret2
  rw[HF.out];exact⟨_,rfl,HV.out,HB.out⟩
 ·subst ax;cases inside with
  |
   false =>
   have aa:Xg ⟨⟨kind,row,index,n,nodes,ae,old,text⟩,k,index,false,slot,rest⟩=(YO ⟨⟨kind,row,index,n,nodes,ae,old,text⟩,k,index,false,slot,rest⟩ [index],false):=by unfold Xg;rw[if_pos (Or.inr ⟨rfl,rfl⟩)]
   have HF:=hid aa;clear aa;go_enter Tryz.func132,Tryz.ntmps132
   go_wp2_with fail
   go_quiet (fail)
   go_wp2_with fail
   refine(X3 _ Ar An As lr cr ln cn cs w _ H.out.1 H.out.2 (by first|exact Zx _ _|exact YP (Zx _ _) _) [index] (by intro x hx;simp only[List.mem_cons,List.not_mem_nil,or_false] at hx;rcases hx with rfl<;>(apply Yn<;>omega)) (by simp) _ _ rfl (by simp) _ rfl).mono ?_;rintro e w1 ⟨v1,rfl,af,ag⟩;have HV:=hid af;have HB:=hid ag;clear af ag
   go_wp2_with fail
   go_ret2
   rw[HF.out];exact⟨_,rfl,HV.out,HB.out⟩
  |
   true =>
   rcases Int.lt_trichotomy slot ae with hs|hs|hs
   ·have aa:Xg ⟨⟨kind,row,index,n,nodes,ae,old,text⟩,k,index,true,slot,rest⟩=([index],true):=by unfold Xg;rw[if_neg (by simp),if_neg (by simp),if_pos hs]
    have HF:=hid aa;clear aa;go_enter Tryz.func132,Tryz.ntmps132
    go_wp2_with fail
    go_quiet (fail)
    go_wp2_with fail
    go_ret2
    rw[HF.out];exact⟨_,rfl,zSb (by first|exact Zx _ _|exact YP (Zx _ _) _) [index] (by intro x hx;simp only[List.mem_cons,List.not_mem_nil,or_false] at hx;rcases hx with rfl<;>(apply Yn<;>omega)) (by simp) _ _ rfl (by simp) _ rfl⟩
   ·subst hs;cases rest with
    |nil=>exact absurd (av.out rfl) (by simp)
    |
     cons r rest =>
     have aa:Xg ⟨⟨kind,row,index,n,nodes,slot,old,text⟩,k,index,true,slot,r::rest⟩=((index+r)::rest,false):=by unfold Xg;simp
     rw[aa];exact zU2 kind row n nodes old text k index slot r rest Ar An As lr cr ln cn cs w H.out.1 H.out.2
   have aa:Xg ⟨⟨kind,row,index,n,nodes,ae,old,text⟩,k,index,true,slot,rest⟩=([index+n],true):=by unfold Xg;rw[if_neg (by simp),if_neg (by simp),if_neg (by simp;omega),if_pos hs]
   have HF:=hid aa;clear aa;go_enter Tryz.func132,Tryz.ntmps132
   go_wp2_with fail
   go_quiet (fail)
   go_wp2_with fail
   go_ret2
   rw[HF.out];exact⟨_,rfl,zSb (by first|exact Zx _ _|exact YP (Zx _ _) _) [index+n] (by intro x hx;simp only[List.mem_cons,List.not_mem_nil,or_false] at hx;rcases hx with rfl<;>(apply Yn<;>omega)) (by simp) _ _ rfl (by simp) _ rfl⟩
 have ax:(index==at_)=false:=by simp;omega
 have aG:decide (index<at_)=false:=by simp;omega
 have aa:Xg ⟨⟨kind,row,at_,n,nodes,ae,old,text⟩,k,index,inside,slot,rest⟩=(YO ⟨⟨kind,row,at_,n,nodes,ae,old,text⟩,k,index,inside,slot,rest⟩ [index-1+n],false):=by unfold Xg;rw[if_neg (by simp;omega),if_pos aI]
 cases inside
 ·skip
  have HF:=hid aa;clear aa;go_enter Tryz.func132,Tryz.ntmps132
  go_wp2_with fail
  go_quiet (fail)
  go_wp2_with fail
  refine(X3 _ Ar An As lr cr ln cn cs w _ H.out.1 H.out.2 (by first|exact Zx _ _|exact YP (Zx _ _) _) [index-1+n] (by intro x hx;simp only[List.mem_cons,List.not_mem_nil,or_false] at hx;rcases hx with rfl<;>(apply Yn<;>omega)) (by simp) _ _ rfl (by simp) _ rfl).mono ?_;rintro e w1 ⟨v1,rfl,af,ag⟩;have HV:=hid af;have HB:=hid ag;clear af ag
  go_wp2_with fail
  go_ret2
  rw[HF.out];exact⟨_,rfl,HV.out,HB.out⟩
 skip
 have HF:=hid aa;clear aa;go_enter Tryz.func132,Tryz.ntmps132
 go_wp2_with fail
 go_quiet (fail)
 go_wp2_with fail
 refine(X3 _ Ar An As lr cr ln cn cs w _ H.out.1 H.out.2 (by first|exact Zx _ _|exact YP (Zx _ _) _) [index-1+n] (by intro x hx;simp only[List.mem_cons,List.not_mem_nil,or_false] at hx;rcases hx with rfl<;>(apply Yn<;>omega)) (by simp) _ _ rfl (by simp) _ rfl).mono ?_;rintro e w1 ⟨v1,rfl,af,ag⟩;have HV:=hid af;have HB:=hid ag;clear af ag
 go_wp2_with fail
 go_ret2
 rw[HF.out];exact⟨_,rfl,HV.out,HB.out⟩
def WC (p:Xv) (after:Bool):List Int×Bool :=
 if p.op.kind=1 then (WL p after,false) else if p.op.kind=2 then Xf p else if p.op.kind=3 then (XU p after,false) else if p.op.kind=4 then Xg p else (YO p [p.index],false)
theorem zVe (p:Xv) (after:Bool) (Ar An As:Option Addr) (lr cr ln cn cs:Nat) (w:World) (hp:p.Ok) (hs:Z0 w (Lt w.heap.size) p.rest (.slice As p.rest.length cs)) :
  Calls Tryz.prog 98 #[.agg (Xq p (.slice Ar lr cr) (.slice An ln cn) (.slice As p.rest.length cs)),.bool after] w (zSd w (WC p after)):=by
 obtain⟨o1,ay⟩:∃o,o=Obj.cells (Xq p (.slice Ar lr cr) (.slice An ln cn) (.slice As p.rest.length cs)) 127:=⟨_,rfl⟩;have ah:=hs.alloc o1;have ax:=zUr p after Ar An As lr cr ln cn cs (w.alloc o1) hp ah;have av:=zUi p Ar An As lr cr ln cn cs (w.alloc o1) hp ah;have au:=VJ p after Ar An As lr cr ln cn cs (w.alloc o1) hp ah;have ak:=zUg p Ar An As lr cr ln cn cs (w.alloc o1) hp ah;have aj:=X3 p Ar An As lr cr ln cn cs w (w.alloc o1) hp hs (Zx _ _) [p.index] (by intro x hx;simp at hx;subst hx;exact zVm hp.index) (by simp) 1 (w.heap.size+1) rfl (by simp) #[.int .i64 p.index] rfl;rw[ay] at ax av au ak aj;have H1:=hid ax;have H2:=hid av;have H3:=hid au;have H4:=hid ak;have H5:=hid aj;have HB:Hid (Below w.heap.size w (w.alloc (Obj.cells (Xq p (.slice Ar lr cr) (.slice An ln cn) (.slice As p.rest.length cs)) 127))):=Zx _ _;clear ax av au ak aj ay hs ah o1 hp;obtain⟨⟨kind,row,at_,n,nodes,ag,old,text⟩,k,index,inside,slot,rest⟩:=p;simp only[Xq] at *;by_cases h1:kind=1
 ·subst h1;go_enter Tryz.func98,Tryz.ntmps98
  go_wp2_with fail
  with_reducible refine H1.out.mono ?_
  rintro e w1 ⟨v1,rfl,aa,ae⟩;have HV:=hid aa;have af:=hid ae;clear aa ae
  go_wp2_with fail
  go_ret2
  exact⟨_,rfl,HV.out,HB.out.trans (af.out.mono HB.out.size)⟩
 have e1:(kind==1)=false:=by simpa using h1
 by_cases h2:kind=2
 ·subst h2;clear h1;go_enter Tryz.func98,Tryz.ntmps98
  go_wp2_with fail
  with_reducible refine H2.out.mono ?_
  rintro e w1 ⟨v1,rfl,aa,ae⟩;have HV:=hid aa;have af:=hid ae;clear aa ae
  go_wp2_with fail
  go_ret2
  exact⟨_,rfl,HV.out,HB.out.trans (af.out.mono HB.out.size)⟩
 have e2:(kind==2)=false:=by simpa using h2
 by_cases h3:kind=3
 ·subst h3;clear h1 h2;go_enter Tryz.func98,Tryz.ntmps98
  go_wp2_with fail
  with_reducible refine H3.out.mono ?_
  rintro e w1 ⟨v1,rfl,aa,ae⟩;have HV:=hid aa;have af:=hid ae;clear aa ae
  go_wp2_with fail
  go_ret2
  exact⟨_,rfl,HV.out,HB.out.trans (af.out.mono HB.out.size)⟩
 have e3:(kind==3)=false:=by simpa using h3
 by_cases h4:kind=4
 ·subst h4;clear h1 h2 h3;go_enter Tryz.func98,Tryz.ntmps98
  go_wp2_with fail
  with_reducible refine H4.out.mono ?_
  rintro e w1 ⟨v1,rfl,aa,ae⟩;have HV:=hid aa;have af:=hid ae;clear aa ae
  go_wp2_with fail
  go_ret2
  exact⟨_,rfl,HV.out,HB.out.trans (af.out.mono HB.out.size)⟩
 have e4:(kind==4)=false:=by simpa using h4
 have HF:Hid (WC ⟨⟨kind,row,at_,n,nodes,ag,old,text⟩,k,index,inside,slot,rest⟩ after=(YO ⟨⟨kind,row,at_,n,nodes,ag,old,text⟩,k,index,inside,slot,rest⟩ [index],false)):=by
  show _=_;unfold WC;simp[h1,h2,h3,h4]
 clear h1 h2 h3 h4;go_enter Tryz.func98,Tryz.ntmps98
 go_wp2_with fail
 with_reducible refine H5.out.mono ?_
 rintro e w1 ⟨v1,rfl,aa,ae⟩;have HV:=hid aa;have af:=hid ae;clear aa ae
 go_wp2_with fail
 go_ret2
 rw[HF.out];exact⟨_,rfl,HV.out,af.out⟩
theorem zSj (w:World) (o:Obj):(w.alloc o).drew=(w.drew).alloc o:=rfl
theorem zSv (w:World) (a b c:Obj):Below w.heap.size w (((w.alloc a).alloc b).alloc c).drew :=
 Below.drew (((Zx _ _).trans ((Zx _ _).mono (by simp))).trans ((Zx _ _).mono (by simp;omega)))
set_option maxRecDepth 100000 in
theorem Uw (op:ZL) (pos:List Int) (Ar An Ap:Option Addr) (cr cn cp:Nat) (w:World) (hop:op.Ok) (hr:Z0 w (Lt w.heap.size) op.row (.slice Ar op.row.length cr)) (hpos:Z0 w (Lt w.heap.size) pos (.slice Ap pos.length cp)) (hpl:pos.length<=100000)
  (hw:Xu pos op.row=true) (hlen:op.row.length+2<pos.length) (x y:Int) (hx:pos[op.row.length]?=some x) (hy:pos[op.row.length+1]?=some y) :
  Calls Tryz.prog 96 #[.agg (Zm op (.slice Ar op.row.length cr) (.slice An op.nodes.length cn)),.slice Ap pos.length cp] w
   (zVv op ⟨op,op.nodes.length,x,true,y,pos.drop (op.row.length+2)⟩ (.slice Ar op.row.length cr) (.slice An op.nodes.length cn) w):=by
 obtain⟨hat,hn,hslot,hnl,hrl⟩:=hop
 have hc1:pos.length<=cp:=by obtain⟨A,cap,cs,e,h1,_⟩:=hpos;injection e with _ _ e3;omega
 obtain⟨kind,row,at_,n,nodes,slot,old,text⟩:=op
 simp only[Zm] at *
 have hte:pos.take row.length=row:=by unfold Xu at hw;simp only[decide_eq_true_eq] at hw;exact hw.2.1
 obtain⟨A1,hsl,hcut⟩:=RV ZA Tryz.underlying25 WO Ap pos.length cp row.length row.length rfl (by omega) hc1
 have hd:decide (pos.take row.length=row)=true:=decide_eq_true hte
 have heq:∀W,Below w.heap.size w W->Calls Tryz.prog 120 #[.slice A1 row.length cp,.slice Ar row.length cr] W fun e w'=>e=.returned (.bool true)/\∃n,w'=W.drewN n:=by
  intro W hW
  have:=zS7 (pos.take row.length) row W _ _ _ _ ((hcut _ _ _ hpos).below hW (Nat.le_refl _)) (hr.below hW (Nat.le_refl _))
  rw[hd] at this
  exact this
 have HE:=hid heq
 obtain⟨A2,hsl2,hcut2⟩:=TM ZA Tryz.underlying25 WO Ap pos.length cp ((row.length:Int)+2) (row.length+2) (by omega) (by omega)
 have HC2:=hid (hcut2 _ _ _ hpos)
 have hle2:row.length+2<=pos.length:=by omega
 have hle1:row.length+1<pos.length:=by omega
 clear hcut2
 obtain⟨A,cap,rs,e,h1,h2,hrd,hls⟩:=hpos
 injection e with q1 q2 q3
 subst q1 q3
 have hlt:row.length<pos.length:=by omega
 obtain⟨g,o,rfl,hg,hi,c0⟩:=X5 hrd hls hlt
 obtain rfl:pos[row.length]=x:=by rw[List.getElem?_eq_getElem hlt] at hx;exact Option.some.inj hx
 have hg':g<w.heap.size:=hg
 obtain⟨g',o',e',hgg,hi',c0'⟩:=X5 hrd hls hle1
 injection e' with e'
 injection e' with e1' e2'
 subst e1' e2'
 obtain rfl:pos[row.length+1]=y:=by rw[List.getElem?_eq_getElem hle1] at hy;exact Option.some.inj hy
 have hw2:IntKind.i64.wrap ((row.length:Int)+1)=(row.length:Int)+1:=IntWalk.i64_in _ (by omega)
 have ht1:((row.length:Int)+1).toNat=row.length+1:=by omega
 have hp1:(0:Int)<=(row.length:Int)+1:=by omega
 have hp2:(row.length:Int)+1<(pos.length:Int):=by omega
 have e1:decide (pos.length<=row.length)=false:=by simp;omega
 have e2:((pos.length:Int)==(row.length:Int)+2)=false:=by simp;omega
 have e4:decide ((row.length:Int)+1<(pos.length:Int))=true:=by simp;omega
 have hw1:IntKind.i64.wrap ((row.length:Int)+2)=(row.length:Int)+2:=IntWalk.i64_in _ (by omega)
 have hr1:(row.length:Int)<=(pos.length:Int):=by omega
 have hr2:(row.length:Int)<(pos.length:Int):=by omega
 clear hte hcut hd heq hrd hls hx hy hlen hw hgg hi' hle2 hg hi q2 h1 h2 hat hn hslot hpl hr
 go_enter Tryz.func96,Tryz.ntmps96
 go_wp2_with fail
 go_quiet ((go_at_call 120;exact Calls.quiet_of (HE.out _ (YP (((Zx _ _).trans ((Zx _ _).mono (by simp)))) _))))
 rw[TP,TP]
 generalize hw0:w.drewN nq=w0
 have hz0:w.heap.size=w0.heap.size:=by rw[<-hw0];rfl
 have HB:Hid (Below w.heap.size w w0):=by rw[<-hw0];exact YP (Below.refl _ _) _
 have c1:w0.cell? ⟨g,o+row.length,none⟩=some (.int .i64 pos[row.length]):=by rw[<-hw0];exact c0
 have c2:w0.cell? ⟨g,o+(row.length+1),none⟩=some (.int .i64 pos[row.length+1]):=by rw[<-hw0];exact c0'
 have HC3:Hid (Z0 w0 (Lt w0.heap.size) (pos.drop (row.length+2)) (.slice A2 (pos.length-(row.length+2)) (cp-(row.length+2)))):=HC2.out.below HB.out HB.out.size
 rw[hz0] at hg'
 rw[hz0]
 have n1:g<w0.heap.size+1:=by omega
 have n2:g<w0.heap.size+1+1:=by omega
 clear hw0 c0 c0' HE hz0 HC2
 go_wp2_with fail
 go_region
 go_wp2_with fail
 rw[zSj,zSj,zSj]
 generalize hw1':w0.drew=w1
 have hz1:w0.heap.size=w1.heap.size:=by rw[<-hw1'];rfl
 have HB1:Hid (Below w.heap.size w w1):=by rw[<-hw1'];exact HB.out.drew
 have HC4:Hid (Z0 w1 (Lt w1.heap.size) (pos.drop (row.length+2)) (.slice A2 (pos.length-(row.length+2)) (cp-(row.length+2)))):=by rw[<-hw1'];exact HC3.out.keep (fun _ _=>rfl) (fun _ h=>h)
 have c3:w1.cell? ⟨g,o+(row.length+1),none⟩=some (.int .i64 pos[row.length+1]):=by rw[<-hw1'];exact c2
 rw[hz1] at hg' n1 n2 ⊢
 have n3:g<w1.heap.size+1+1+1:=by omega
 clear hw1' hz1 c1 c2 HC3 HB
 go_region
 go_wp2_with fail
 refine bodyPost_ret (v:=.tuple #[.agg #[.int .i64 kind,.slice Ar row.length cr,.int .i64 at_,.int .i64 n,.slice An nodes.length cn,.int .i64 slot,.string old,.string text,.int .i64 nodes.length,.int .i64 pos[row.length],.bool true,.int .i64 pos[row.length+1],.slice A2 (pos.length-(row.length+2)) (cp-(row.length+2))],.bool true]) (by simp[results,Tryz.results96,go_sem]) rfl ?_
 refine⟨A2,cp-(row.length+2),by simp only[Xq,List.length_drop],?_,HB1.out.trans ((zSv _ _ _ _).mono HB1.out.size)⟩
 rw[List.length_drop]
 exact HC4.out.keep (Zr.of_below (zSv _ _ _ _) (Nat.le_refl _)) (fun k hk=>by unfold Lt at *;simp;omega)
theorem TE {pos row:List Int}:Xu pos row=true↔row.length<pos.length/\pos.take row.length=row/\pos.length≠row.length+2:=by
 unfold Xu;simp only[decide_eq_true_eq]
theorem SF (op:ZL) (pos:List Int) (Ar An Ap:Option Addr) (cr cn cp:Nat) (w:World) (af:op.Ok) (hr:Z0 w (Lt w.heap.size) op.row (.slice Ar op.row.length cr)) (aa:Z0 w (Lt w.heap.size) pos (.slice Ap pos.length cp)) (ae:pos.length<=100000)
  (hw:Xu pos op.row=true) :
  Calls Tryz.prog 96 #[.agg (Zm op (.slice Ar op.row.length cr) (.slice An op.nodes.length cn)),.slice Ap pos.length cp] w
   (zVv op (XQ op pos) (.slice Ar op.row.length cr) (.slice An op.nodes.length cn) w):=by
 obtain⟨h1,h2,h3⟩:=TE.1 hw;unfold XQ;split
 ·rename_i h;have hx:pos[op.row.length]?=some (pos.getD op.row.length 0):=by rw[List.getD_eq_getElem?_getD,List.getElem?_eq_getElem h1];rfl
  have hy:pos[op.row.length+1]?=some (pos.getD (op.row.length+1) 0):=by rw[List.getD_eq_getElem?_getD,List.getElem?_eq_getElem h];rfl
  exact Uw op pos Ar An Ap cr cn cp w af hr aa ae hw (by omega) _ _ hx hy
 rename_i h;have hx:pos[op.row.length]?=some (pos.getD op.row.length 0):=by rw[List.getD_eq_getElem?_getD,List.getElem?_eq_getElem h1];rfl
 exact Ux op pos Ar An Ap cr cn cp w af hr aa ae hw (by omega) _ hx
theorem zTv {M:Int} {l:List Int} (hM:0<=M) (h:∀x∈l,Bd M x) (k:Nat):Bd M (l.getD k 0):=by
 rw[List.getD_eq_getElem?_getD];cases e:l[k]? with
 |none=>exact⟨by simp;omega,by simpa using hM⟩
 |some x=>exact h x (List.mem_of_getElem? e)
theorem zUn (op:ZL) (pos:List Int) (aa:op.Ok) (hb:∀x∈pos,Bd 1152921504606846976 x) (hpl:pos.length<=100000) (hw:Xu pos op.row=true):(XQ op pos).Ok:=by
 obtain⟨h1,h2,h3⟩:=TE.1 hw;unfold XQ;split
 ·rename_i h;exact⟨aa.at_,aa.n,aa.slot,aa.nodes,zTv (by omega) hb _,zTv (by omega) hb _,fun x hx=>hb x (List.mem_of_mem_drop hx),by simp;omega,fun _=>by simp;omega⟩
 exact⟨aa.at_,aa.n,aa.slot,aa.nodes,zTv (by omega) hb _,⟨by simp,by simp⟩,by simp,by simp,fun h=>by simp at h⟩
def XF (op:ZL) (pos:List Int) (after:Bool):List Int :=
 if Xu pos op.row=true then op.row++(WC (XQ op pos) after).1 else pos
theorem zUu (p:Xv) (after:Bool) (hp:p.Ok):(WC p after).1.length<=200000:=by
 have hb:∀l:List Int,l.length<=3->(YO p l).length<=200000:=by
  intro l hl;have:=hp.len;unfold YO;split
  ·simp;omega
  omega
 have hr:=hp.len;unfold WC WL Xf XU Xg
 repeat' split
 all_goals first|(apply hb;simp;done)|(simp;done)|(simp;omega)
def zTa (w:World) (xs:List Int) (e:Ending) (w':World):Prop:=∃v,e=.returned v/\Z0 w' (fun k=>w.heap.size<=k/\k<w'.heap.size) xs v/\Below w.heap.size w w'
theorem Rk (op:ZL) (pos:List Int) (after:Bool) (Ar An Ap:Option Addr) (cr cn cp:Nat) (w:World) (ah:op.Ok) (hr:Z0 w (Lt w.heap.size) op.row (.slice Ar op.row.length cr)) (ae:Z0 w (Lt w.heap.size) pos (.slice Ap pos.length cp)) (ag:pos.length<=100000)
  (hw:Xu pos op.row=false) :
  Calls Tryz.prog 57 #[.agg (Zm op (.slice Ar op.row.length cr) (.slice An op.nodes.length cn)),.slice Ap pos.length cp,.bool after] w (zTa w pos):=by
 obtain⟨o1,aj⟩:∃o,o=Obj.cells (Zm op (.slice Ar op.row.length cr) (.slice An op.nodes.length cn)) 49:=⟨_,rfl⟩;have HC:=hid (Q7 op pos (.slice Ar op.row.length cr) (.slice An op.nodes.length cn) (.slice Ap pos.length cp) Ar An Ap cr cn cp (w.alloc o1) ah (hr.alloc o1) (ae.alloc o1) ag hw);have HL:Hid (∀W,Below w.heap.size w W->Calls Tryz.prog 97 #[.slice Ap pos.length cp] W (QU W pos)):=fun W hW=>zQp pos W _ (ae.below hW hW.size) (by omega)
 rw[aj] at HC;have HB:Hid (Below w.heap.size w (w.alloc (Obj.cells (Zm op (.slice Ar op.row.length cr) (.slice An op.nodes.length cn)) 49))):=Zx _ _;clear aj ah hr ae ag hw o1;obtain⟨kind,row,at_,n,nodes,slot,old,text⟩:=op;simp only[Zm] at *;go_enter Tryz.func57,Tryz.ntmps57
 go_wp2_with fail
 with_reducible refine HC.out.mono ?_
 rintro e w1 ⟨rfl,au⟩;have af:Hid (Below w.heap.size w w1):=HB.out.trans (au.mono HB.out.size);clear au
 go_wp2_with fail
 refine(HL.out _ (af.out.trans ((Zx _ _).mono af.out.size))).mono ?_;rintro e w2 ⟨v2,rfl,aa,ak⟩;have HO:=hid aa;have av:=hid ak;clear aa ak
 go_wp2_with fail
 go_ret;have h3:=af.out.trans ((Zx w1 (Obj.cells zTb 127)).mono af.out.size);exact⟨_,rfl,HO.out.ints (fun _ h1 h2=>⟨Qf h3.size h1,h2⟩),h3.trans (av.out.mono h3.size)⟩
theorem Td (op:ZL) (pos:List Int) (after:Bool) (Ar An Ap:Option Addr) (cr cn cp:Nat) (w:World) (ae:op.Ok) (hr:Z0 w (Lt w.heap.size) op.row (.slice Ar op.row.length cr)) (aa:Z0 w (Lt w.heap.size) pos (.slice Ap pos.length cp)) (ak:pos.length<=100000)
  (hb:∀x∈pos,Bd 1152921504606846976 x) (hw:Xu pos op.row=true) :
  Calls Tryz.prog 57 #[.agg (Zm op (.slice Ar op.row.length cr) (.slice An op.nodes.length cn)),.slice Ap pos.length cp,.bool after] w (zTa w (op.row++(WC (XQ op pos) after).1)):=by
 have av:=zUn op pos ae hb ak hw;have au:(XQ op pos).op=op:=by unfold XQ;split<;>rfl
 obtain⟨o1,aB⟩:∃o,o=Obj.cells (Zm op (.slice Ar op.row.length cr) (.slice An op.nodes.length cn)) 49:=⟨_,rfl⟩;have aF:=zUu (XQ op pos) after av;have HC:=hid (SF op pos Ar An Ap cr cn cp (w.alloc o1) ae (hr.alloc o1) (aa.alloc o1) ak hw);have HI:Hid (∀W As cs,Z0 W (Lt W.heap.size) (XQ op pos).rest (.slice As (XQ op pos).rest.length cs)->Calls Tryz.prog 98 #[.agg (Xq (XQ op pos) (.slice Ar op.row.length cr) (.slice An op.nodes.length cn) (.slice As (XQ op pos).rest.length cs)),.bool after] W (zSd W (WC (XQ op pos) after))) :=
  fun W As cs h=>zVe (XQ op pos) after Ar An As op.row.length cr op.nodes.length cn cs W av h
 have HR:Hid (∀W,Below w.heap.size w W->Z0 W (Lt w.heap.size) op.row (.slice Ar op.row.length cr)):=fun W hW=>hr.below hW (Qi _)
 rw[aB] at HC;have HB:Hid (Below w.heap.size w (w.alloc (Obj.cells (Zm op (.slice Ar op.row.length cr) (.slice An op.nodes.length cn)) 49))):=Zx _ _;have hrl:=ae.row;generalize WC (XQ op pos) after=im at *;generalize XQ op pos=p at *;clear aB ae hr aa ak hw o1 av hb;obtain⟨kind,row,at_,n,nodes,slot,old,text⟩:=op;obtain⟨aD,k,index,inside,ay,rest⟩:=p;obtain rfl:aD=_:=au;simp only[Zm,Xq] at *;go_enter Tryz.func57,Tryz.ntmps57
 go_wp2_with fail
 with_reducible refine HC.out.mono ?_
 rintro e w1 ⟨As,cs,rfl,aA,ag⟩;have ax:Hid (Below w.heap.size w w1):=HB.out.trans (ag.mono HB.out.size);have HS:=hid aA;have q1:w1.cell? ⟨w.heap.size,1,none⟩=some (.slice Ar row.length cr):=((bcell ag).1 w.heap.size 1 (by simp)).trans (by rw[World.cell?_alloc_new];rfl);have z1:w.heap.size<w1.heap.size:=by have:=ag.size;simp at this;omega
 clear ag aA HC
 go_wp2_with fail
 refine(HI.out _ As cs (HS.out.alloc _)).mono ?_;rintro e w2 ⟨v2,rfl,aj,af⟩;have aH:=hid aj;have ah:Hid (Below w.heap.size w w2):=(ax.out.trans ((Zx _ _).mono ax.out.size)).trans (af.mono (by have:=ax.out.size;simp;omega));have q2:w2.cell? ⟨w.heap.size,1,none⟩=some (.slice Ar row.length cr):=((bcell af).1 w.heap.size 1 (by simp;omega)).trans ((World.cell?_alloc_lt _ _ _ z1).trans q1);have z2:w.heap.size<w2.heap.size:=by have:=af.size;simp at this;omega
 obtain⟨A2,c2,rfl⟩:=aj.form;clear af aj HI HS;have HF:Hid ([row,im.1].flatten.length<=1000000):=by show _<=_;simp only[List.flatten_cons,List.flatten_nil,List.append_nil,List.length_append];omega
 have aI:=hid (Qq [row,im.1] (w2.alloc (.cells #[.slice Ar row.length cr,.slice A2 im.1.length c2] 25)) _ (Vk ((HR.out _ ah.out).keep (Zr.refl _ _) (Lt.mono ah.out.size)) aH.out 25 rfl (fun _ h=>h) w2.heap.size rfl) HF.out)
 go_wp2_with fail
 with_reducible refine aI.out.mono ?_
 rintro e w3 ⟨v3,rfl,az,aC⟩;have aG:=hid az;have aJ:=hid aC;clear az aC
 go_wp2_with fail
 go_ret;have h4:=ah.out.trans ((Zx w2 (.cells #[.slice Ar row.length cr,.slice A2 im.1.length c2] 25)).mono ah.out.size);exact⟨_,rfl,by have h:=aG.out.ints (S:=fun k=>w.heap.size<=k/\k<w3.heap.size) (fun _ h1 h2=>⟨Qf h4.size h1,h2⟩);simpa using h,h4.trans (aJ.out.mono h4.size)⟩
theorem UZ (op:ZL) (pos:List Int) (after:Bool) (Ar An Ap:Option Addr) (cr cn cp:Nat) (w:World) (af:op.Ok) (hr:Z0 w (Lt w.heap.size) op.row (.slice Ar op.row.length cr)) (aa:Z0 w (Lt w.heap.size) pos (.slice Ap pos.length cp)) (ae:pos.length<=100000)
  (hb:∀x∈pos,Bd 1152921504606846976 x) :
  Calls Tryz.prog 57 #[.agg (Zm op (.slice Ar op.row.length cr) (.slice An op.nodes.length cn)),.slice Ap pos.length cp,.bool after] w (zTa w (XF op pos after)):=by
 unfold XF;split
 ·rename_i h;exact Td op pos after Ar An Ap cr cn cp w af hr aa ae hb h
 rename_i h;exact Rk op pos after Ar An Ap cr cn cp w af hr aa ae (by simpa using h)
theorem U0 (op:ZL) (pos:List Int) (after:Bool) (aa:op.row.length<=60):(XF op pos after).length<=pos.length+64:=by
 unfold XF;split;rotate_left
 ·omega
 rename_i hw;obtain⟨h1,h2,h3⟩:=TE.1 hw;have hr:(XQ op pos).rest.length<=pos.length:=by unfold XQ;split<;>simp
 have hb:∀l:List Int,l.length<=3->(YO (XQ op pos) l).length<=pos.length+4:=by
  intro l hl;unfold YO;split
  ·simp;omega
  omega
 rw[List.length_append];have:(WC (XQ op pos) after).1.length<=pos.length+4:=by
  unfold WC WL Xf XU Xg
  repeat' split
  all_goals first|(apply hb;simp;done)|(simp;done)|(simp;omega)
 omega
theorem zUs (op:ZL) (x:Int) (after:Bool):(WC ⟨op,op.nodes.length,x,false,0,[]⟩ after).1=Wu op x after:=by
 obtain⟨kind,row,at_,n,nodes,slot,old,text⟩:=op;generalize hK:(nodes.length:Int)=K;have hK0:0<=K:=by omega
 unfold WC WL Xf XU Xg YO Wu;simp only[hK];by_cases h1:kind=1
 ·subst h1;simp;rcases Int.lt_trichotomy x at_ with h|h|h<;>cases after<;>(repeat' split)<;>first|rfl|(exfalso;omega)|(simp_all;done)|(simp_all;omega)
 by_cases h2:kind=2
 ·subst h2;simp<;>(repeat' split)<;>first|rfl|(exfalso;omega)|(simp_all;done)|(simp_all;omega)
 by_cases h3:kind=3
 ·subst h3;simp;cases after<;>(repeat' split)<;>first|rfl|(exfalso;omega)|(simp_all;done)|(simp_all;omega)
 by_cases h4:kind=4
 ·subst h4;simp<;>(repeat' split)<;>first|rfl|(exfalso;omega)|(simp_all;done)|(simp_all;omega)
 simp[h1,h2,h3,h4]
theorem zUt (op:ZL) (x y:Int) (r:List Int) (after:Bool):(WC ⟨op,op.nodes.length,x,true,y,r⟩ after).1=Wp op x y r:=by
 obtain⟨kind,row,at_,n,nodes,slot,old,text⟩:=op;generalize hK:(nodes.length:Int)=K;have hK0:0<=K:=by omega
 unfold WC WL Xf XU Xg YO Wp;simp only[hK];by_cases h1:kind=1
 ·subst h1;simp<;>(repeat' split)<;>first|rfl|(exfalso;omega)|(simp_all;done)|(simp_all;omega)
 by_cases h2:kind=2
 ·subst h2;simp<;>(repeat' split)<;>first|rfl|(exfalso;omega)|(simp_all;done)|(simp_all;omega)
 by_cases h3:kind=3
 ·subst h3;simp<;>(repeat' split)<;>first|rfl|(exfalso;omega)|(simp_all;done)|(simp_all;omega)
 by_cases h4:kind=4
 ·subst h4;simp<;>(repeat' split)<;>first|rfl|(exfalso;omega)|(simp_all;done)|(simp_all;omega)
 simp[h1,h2,h3,h4]
theorem QC (op:ZL) (pos:List Int) (after:Bool):XF op pos after=TV op pos after:=by
 unfold XF TV;split
 ·rename_i hw;obtain⟨h1,h2,h3⟩:=TE.1 hw;unfold XQ;split
  ·rename_i h;rw[if_neg (by omega),zUt]
  rename_i h;rw[if_pos (by omega),zUs]
 rfl
def Zu (op:ZL):ZL :=
 ⟨if op.kind=1 then 2 else if op.kind=2 then 1 else if op.kind=3 then 4 else if op.kind=4 then 3 else op.kind,op.row,op.at_,op.n,op.nodes,op.slot,if op.kind=5 then op.text else op.old,if op.kind=5 then op.old else op.text⟩
def Xt (op:ZL) (after:Bool):List Int->List Int
 |[o]=>Wu op o after
 |i::s::y::r=>Wp op i s (y::r)
 |q=>q
theorem QD (op:ZL) (q:List Int) (after:Bool):TV op (op.row++q) after=op.row++Xt op after q:=by
 unfold TV
 match q with
 |[]=>rw[if_neg (by rw[TE];simp)];rfl
 |[o]=>rw[if_pos (by rw[TE];simp),if_pos (by simp)];simp[Xt]
 |[i,s]=>rw[if_neg (by rw[TE];simp)];rfl
 |
  i::s::y::r =>
  rw[if_pos (by rw[TE];simp),if_neg (by simp)];simp[Xt,List.getD_eq_getElem?_getD,List.getElem?_append_right]
theorem zVc {op:ZL} {pos:List Int} (h:Xu pos op.row=false) (after:Bool):TV op pos after=pos:=by
 unfold TV;rw[h];simp
theorem zSl {pos row:List Int} (h:Xu pos row=true):∃q,pos=row++q/\((∃o,q=[o])\/∃i s y r,q=i::s::y::r):=by
 obtain⟨h1,h2,h3⟩:=TE.1 h;refine⟨pos.drop row.length,by conv=>lhs;rw[<-List.take_append_drop row.length pos,h2],?_⟩;have hl:(pos.drop row.length).length=pos.length-row.length:=by simp
 match hq:pos.drop row.length with
 |[]=>rw[hq] at hl;simp at hl;omega
 |[o]=>exact .inl ⟨o,rfl⟩
 |[i,s]=>rw[hq] at hl;simp at hl;omega
 |i::s::y::r=>exact .inr ⟨i,s,y,r,rfl⟩
theorem VW (t:Z9) (i k:Int) (p:List Int):ZO t (i::k::p)=(decide (0<=i/\i.toNat<t.kids.length)&&(decide (0<=k/\k.toNat<(ZZ t i).kids.length)&&ZO (ZZ (ZZ t i) k) p)):=by
 rw[ZO];split
 ·rename_i hi;rw[TQ hi.2];split
  ·rename_i hk;rw[TQ hk.2];simp[hi,hk]
  rename_i hk;simp[hi,hk]
 rename_i hi;simp[hi]
theorem WK (t:Z9) (i k:Int) (p:List Int) (h:(ZP t (i::k::p)).2=true):(0<=i/\i.toNat<t.kids.length)/\(0<=k/\k.toNat<(ZZ t i).kids.length)/\ZP t (i::k::p)=ZP (ZZ (ZZ t i) k) p:=by
 rw[ZP] at h ⊢;split at h
 ·rename_i hi;split at h
  ·rename_i hk;refine⟨hi,⟨hk.1,by rw[TQ hi.2];exact hk.2⟩,?_⟩;rw[dif_pos hi,dif_pos hk,TQ hi.2,TQ hk.2]
  cases h
 cases h
theorem TW (t:Z9) (i:Nat) (k:Z9):(Y3 t i k).kids.length=t.kids.length:=List.length_set
theorem VX {t:Z9} {i:Int} {k:Z9} (hi:i.toNat<t.kids.length):ZZ (Y3 t i.toNat k) i=k:=by
 show (t.kids.set i.toNat k).getD i.toNat ZN=k;rw[List.getD_eq_getElem?_getD,List.getElem?_set_self hi];rfl
theorem zSq {t:Z9} {i x:Int} {k:Z9} (h:x.toNat≠i.toNat):ZZ (Y3 t i.toNat k) x=ZZ t x:=by
 show (t.kids.set i.toNat k).getD x.toNat ZN=t.kids.getD x.toNat ZN;rw[List.getD_eq_getElem?_getD,List.getD_eq_getElem?_getD,List.getElem?_set_ne (by omega)]
theorem zSm:(p:List Int)->(t:Z9)->(l:List Z9)->(q:List Int)->(ZP t p).2=true->ZO (ZV t p l) (p++q)=ZO (Z7 l) q
 |[],t,l,q,_=>rfl
 |[_],t,l,q,h=>by simp[ZP] at h
 |
  i::k::p,t,l,q,h=>by
  obtain⟨hi,hk,he⟩:=WK t i k p h;rw[he] at h;show ZO (ZV t (i::k::p) l) (i::k::(p++q))=_;rw[VW,ZV,TW,VX hi.2,TW,VX hk.2,zSm p _ l q h];simp[hi,hk]
theorem QI:(p:List Int)->(t:Z9)->(q:List Int)->(ZP t p).2=true->ZO t (p++q)=ZO (ZP t p).1 q
 |[],t,q,_=>rfl
 |[_],t,q,h=>by simp[ZP] at h
 |
  i::k::p,t,q,h=>by
  obtain⟨hi,hk,he⟩:=WK t i k p h;rw[he] at h ⊢;show ZO t (i::k::(p++q))=_;rw[VW,QI p _ q h];simp[hi,hk]
theorem Tp (t:Z9) (x:Int):ZO t [x]=decide (0<=x/\x<=t.kids.length):=by rw[ZO]
theorem zSa:(p:List Int)->(t:Z9)->(l:List Z9)->(q:List Int)->(ZP t p).2=true->¬p <+: q->ZO (ZV t p l) q=ZO t q
 |[],t,l,q,_,hn=>absurd (List.nil_prefix) hn
 |[_],t,l,q,h,_=>by simp[ZP] at h
 |i::k::p,t,l,[],h,_=>by simp[ZO]
 |i::k::p,t,l,[x],h,_=>by rw[Tp,Tp,ZV,TW]
 |
  i::k::p,t,l,x::y::q,h,hn=>by
  obtain⟨hi,hk,he⟩:=WK t i k p h;rw[he] at h;rw[VW,VW,ZV,TW];by_cases hx:0<=x/\x.toNat<t.kids.length
  ·by_cases ae:x.toNat=i.toNat
   ·obtain rfl:x=i:=by omega
    rw[VX hi.2,TW];by_cases hy:0<=y/\y.toNat<(ZZ t x).kids.length
    ·by_cases aa:y.toNat=k.toNat
     ·obtain rfl:y=k:=by omega
      rw[VX hk.2,zSa p _ l q h (fun hp=>hn (by
       obtain⟨s,rfl⟩:=hp;exact⟨s,rfl⟩))]
     rw[zSq aa]
    simp[hy]
   rw[zSq ae]
  simp[hx]
theorem zSf (t u:Z9) (h:t.kids=u.kids):(q:List Int)->ZO t q=ZO u q
 |[]=>rfl
 |[x]=>by rw[Tp,Tp,h]
 |
  i::k::p=>by
  have hk:ZZ t i=ZZ u i:=by unfold ZZ;rw[h]
  rw[VW,VW,h,hk]
theorem Rv:(q:List Int)->(t:Z9)->ZO t q=true->q.length % 2=1
 |[],t,h=>by simp[ZO] at h
 |[x],t,h=>rfl
 |
  i::k::p,t,h=>by
  rw[VW] at h;simp only[Bool.and_eq_true] at h;have:=Rv p _ h.2.2;simp only[List.length_cons];omega
theorem zId:(p:List Int)->(t:Z9)->(ZP t p).2=true->p.length % 2=0
 |[],t,h=>rfl
 |[x],t,h=>by simp[ZP] at h
 |
  i::k::p,t,h=>by
  obtain⟨_,_,he⟩:=WK t i k p h;rw[he] at h;have:=zId p _ h;simp only[List.length_cons];omega
