/- T -/
import Derived.Test.YthpngeboknmllaaGreatQ960f
set_option linter.unusedVariables false
set_option linter.unusedSimpArgs false
set_option maxHeartbeats 16000000
set_option maxRecDepth 100000
namespace Go.Proofs.YthpngeboknmllaaGreat
open Go.RowKit
theorem VW (t:Z9) (p m:List Int) (s:Int) (items:List Z9) (x:ByteArray) (f:Bool) (A Ap Am An:Option Addr) (cap cp cm cn:Nat) (w:World) (aa:Za×Int)
  (hC:∀W,Below w.heap.size w W->Calls Tryz.prog 25 #[.agg #[.int .i64 t.kind,.string t.text,.int .i64 t.cols,.slice A t.kids.length cap],.agg #[.slice Ap p.length cp,.slice Am m.length cm]] W (Zv W aa)) :
  Calls Tryz.prog 8 #[.agg #[.int .i64 t.kind,.string t.text,.int .i64 t.cols,.slice A t.kids.length cap],.agg #[.slice Ap p.length cp,.slice Am m.length cm],.agg #[.int .i64 4,.slice An items.length cn,.int .i64 s,.string x,.bool f]] w (Zv w aa):=by
 obtain⟨W0,af⟩:∃W0,(((w.alloc (.cells #[.int .i64 t.kind,.string t.text,.int .i64 t.cols,.slice A t.kids.length cap] 24)).alloc (.cells #[.slice Ap p.length cp,.slice Am m.length cm] 27)).alloc (.cells #[.int .i64 4,.slice An items.length cn,.int .i64 s,.string x,.bool f] 30)).alloc (.cells #[.slice none 0 0,.slice none 0 0,.slice none 0 0,.slice none 0 0,.slice none 0 0] 35)=W0:=⟨_,rfl⟩;have ay:Below w.heap.size w W0:=by rw[<-af];exact Zq (Zq (Zq (ZX _ _) _) _) _
 have ah:Z5 W0 w.heap.size (.cells #[.int .i64 t.kind,.string t.text,.int .i64 t.cols,.slice A t.kids.length cap] 24):=by rw[<-af];exact(((Z5.at0 _ _).al _).al _).al _
 have av:Z5 W0 (w.heap.size+1) (.cells #[.slice Ap p.length cp,.slice Am m.length cm] 27):=by rw[<-af];exact((Z5.at1 _ _ _).al _).al _
 have ae:Z5 W0 (w.heap.size+1+1) (.cells #[.int .i64 4,.slice An items.length cn,.int .i64 s,.string x,.bool f] 30):=by rw[<-af];exact(Z5.at2 _ _ _ _).al _
 have aI:Hid (Z5 W0 (w.heap.size+1+1+1) (.cells #[.slice none 0 0,.slice none 0 0,.slice none 0 0,.slice none 0 0,.slice none 0 0] 35)):=by show Z5 _ _ _;rw[<-af];exact Z5.new _ _ _ (by simp)
 have HC:=hid (hC W0 ay);have aK:=hid ay;have m0:=ah.cell 0;have m1:=ah.cell 1;have m2:=ah.cell 2;have m3:=ah.cell 3;have n0:=av.cell 0;have n1:=av.cell 1;have c0:=ae.cell 0;have c1:=ae.cell 1;have c2:=ae.cell 2;have c3:=ae.cell 3;have c4:=ae.cell 4;simp only[List.getElem?_toArray,List.getElem?_cons_zero,List.getElem?_cons_succ] at m0 m1 m2 m3 n0 n1 c0 c1 c2 c3 c4;clear hC ay ah av ae;go_enter Tryz.func8,Tryz.ntmps8
 go_wp2_with fail
 refine HC.out.mono ?_;intro e wk ag;have az:=hid ag;obtain⟨aG,aC,aF,aB,aH,aD,ak,ai,au,aj,rfl,_,_,_,_,_,ax⟩:=ag;have aA:=hid (aI.out.below ax);have aJ:=hid (Zx aK.out ax);clear ax m0 m1 m2 m3 n0 n1 c0 c1 c2 c3 c4 af
 go_wp2_with (first
  |(refine wpList_store_row rfl 35 (.tmp 6) (.tmp 52) rfl (w.heap.size+1+1+1) #[.slice aG aa.1.ops.length aC,.slice aF aa.1.bp.length aB,.slice aH aa.1.bm.length aD,.slice ak aa.1.ap.length ai,.slice au aa.1.am.length aj] rfl rfl 35 _ aA.out (by kernel_rfl) (by simp) (by simp[Value.oneCell']) ?_)
  |fail)
 refine bodyPost_ret (v:=.tuple #[.agg #[.slice aG aa.1.ops.length aC,.slice aF aa.1.bp.length aB,.slice aH aa.1.bm.length aD,.slice ak aa.1.ap.length ai,.slice au aa.1.am.length aj],.int .i64 aa.2]) (WQ Tryz.results8 _ _ _ (w.heap.size+1+1+1) 35 _ (0,0) _ rfl (aA.out.row _) rfl Tryz.underlying35 (by kernel_rfl) _ rfl) rfl ?_;exact Zv.put (arr:=#[]) az.out aA.out (ZZ.setRow _ _ _) (size_setRow _ _ _) aJ.out (by omega)
theorem zWq (t:Z9) (p m:List Int) (s:Int) (items:List Z9) (x:ByteArray) (f:Bool) (A Ap Am An:Option Addr) (cap cp cm cn:Nat) (w:World) (aa:Za×Int)
  (hC:∀W,Below w.heap.size w W->Calls Tryz.prog 39 #[.agg #[.int .i64 t.kind,.string t.text,.int .i64 t.cols,.slice A t.kids.length cap],.agg #[.slice Ap p.length cp,.slice Am m.length cm]] W (Zv W aa)) :
  Calls Tryz.prog 15 #[.agg #[.int .i64 t.kind,.string t.text,.int .i64 t.cols,.slice A t.kids.length cap],.agg #[.slice Ap p.length cp,.slice Am m.length cm],.agg #[.int .i64 4,.slice An items.length cn,.int .i64 s,.string x,.bool f]] w (Zv w aa):=by
 obtain⟨W0,af⟩:∃W0,(((w.alloc (.cells #[.int .i64 t.kind,.string t.text,.int .i64 t.cols,.slice A t.kids.length cap] 24)).alloc (.cells #[.slice Ap p.length cp,.slice Am m.length cm] 27)).alloc (.cells #[.int .i64 4,.slice An items.length cn,.int .i64 s,.string x,.bool f] 30)).alloc (.cells #[.slice none 0 0,.slice none 0 0,.slice none 0 0,.slice none 0 0,.slice none 0 0] 35)=W0:=⟨_,rfl⟩;have ay:Below w.heap.size w W0:=by rw[<-af];exact Zq (Zq (Zq (ZX _ _) _) _) _
 have ah:Z5 W0 w.heap.size (.cells #[.int .i64 t.kind,.string t.text,.int .i64 t.cols,.slice A t.kids.length cap] 24):=by rw[<-af];exact(((Z5.at0 _ _).al _).al _).al _
 have av:Z5 W0 (w.heap.size+1) (.cells #[.slice Ap p.length cp,.slice Am m.length cm] 27):=by rw[<-af];exact((Z5.at1 _ _ _).al _).al _
 have ae:Z5 W0 (w.heap.size+1+1) (.cells #[.int .i64 4,.slice An items.length cn,.int .i64 s,.string x,.bool f] 30):=by rw[<-af];exact(Z5.at2 _ _ _ _).al _
 have aI:Hid (Z5 W0 (w.heap.size+1+1+1) (.cells #[.slice none 0 0,.slice none 0 0,.slice none 0 0,.slice none 0 0,.slice none 0 0] 35)):=by show Z5 _ _ _;rw[<-af];exact Z5.new _ _ _ (by simp)
 have HC:=hid (hC W0 ay);have aK:=hid ay;have m0:=ah.cell 0;have m1:=ah.cell 1;have m2:=ah.cell 2;have m3:=ah.cell 3;have n0:=av.cell 0;have n1:=av.cell 1;have c0:=ae.cell 0;have c1:=ae.cell 1;have c2:=ae.cell 2;have c3:=ae.cell 3;have c4:=ae.cell 4;simp only[List.getElem?_toArray,List.getElem?_cons_zero,List.getElem?_cons_succ] at m0 m1 m2 m3 n0 n1 c0 c1 c2 c3 c4;clear hC ay ah av ae;go_enter Tryz.func15,Tryz.ntmps15
 go_wp2_with fail
 refine HC.out.mono ?_;intro e wk ag;have az:=hid ag;obtain⟨aG,aC,aF,aB,aH,aD,ak,ai,au,aj,rfl,_,_,_,_,_,ax⟩:=ag;have aA:=hid (aI.out.below ax);have aJ:=hid (Zx aK.out ax);clear ax m0 m1 m2 m3 n0 n1 c0 c1 c2 c3 c4 af
 go_wp2_with (first
  |(refine wpList_store_row rfl 35 (.tmp 6) (.tmp 52) rfl (w.heap.size+1+1+1) #[.slice aG aa.1.ops.length aC,.slice aF aa.1.bp.length aB,.slice aH aa.1.bm.length aD,.slice ak aa.1.ap.length ai,.slice au aa.1.am.length aj] rfl rfl 35 _ aA.out (by kernel_rfl) (by simp) (by simp[Value.oneCell']) ?_)
  |fail)
 refine bodyPost_ret (v:=.tuple #[.agg #[.slice aG aa.1.ops.length aC,.slice aF aa.1.bp.length aB,.slice aH aa.1.bm.length aD,.slice ak aa.1.ap.length ai,.slice au aa.1.am.length aj],.int .i64 aa.2]) (WQ Tryz.results15 _ _ _ (w.heap.size+1+1+1) 35 _ (0,0) _ rfl (aA.out.row _) rfl Tryz.underlying35 (by kernel_rfl) _ rfl) rfl ?_;exact Zv.put (arr:=#[]) az.out aA.out (ZZ.setRow _ _ _) (size_setRow _ _ _) aJ.out (by omega)
def Yw {α:Type} (E:YW α) (T:TypeId) (w:World) (b:Nat) (S:Nat->Prop) (ts:List α) (v:Value):Prop:=∃cs,w.ownsRow b T E.size v ts.length cs/\ZK E w S ts cs
section
variable {α:Type} {E:YW α} {T:TypeId}
theorem Yw.below {w w':World} {b:Nat} {S:Nat->Prop} {ts:List α} {v:Value} (h:Yw E T w b S ts v) (hS:∀k,S k->k<w.heap.size) (hb:Below w.heap.size w w'):Yw E T w' b S ts v:=by
 obtain⟨cs,h1,h2⟩:=h;exact⟨cs,Si _ h1 hb,h2.keep (fun p hp=>hb.cell (hS _ hp)) (fun _ h=>h)⟩
theorem Yw.own_lt {w:World} {b:Nat} {S:Nat->Prop} {ts:List α} {v:Value} (h:Yw E T w b S ts v):∀k,v.ownBlock=some k->b<=k/\k<w.heap.size:=by
 obtain⟨cs,h1,_⟩:=h;exact h1.lt
theorem Yw.mono {w:World} {b:Nat} {S S':Nat->Prop} {ts:List α} {v:Value} (h:Yw E T w b S ts v) (hS:∀k,S k->S' k):Yw E T w b S' ts v:=by
 obtain⟨cs,h1,h2⟩:=h;exact⟨cs,h1,h2.keep (WI _ _) hS⟩
theorem Yw.rows {w:World} {b:Nat} {S:Nat->Prop} {ts:List α} {v:Value} (h:Yw E T w b S ts v) (hS:∀k,S k->k<w.heap.size):Z8 E w (Lt w.heap.size) ts v:=by
 obtain⟨cs,h1,h2⟩:=h;exact Z8.of_own (E:=E) h1 (fun k hk=>(h1.lt k hk).2) (h2.keep (WI _ _) hS)
theorem zWh {w:World} {b:Nat} {S:Nat->Prop} {xss yss:List α} {v:Value} {TS:TypeId} {z:Value} {bytes:Nat} (hu:Tryz.prog.underlying TS=some (.slice T)) (ag:UY T z E.size bytes) (hz:z.cells.size=E.size) (az:bytes<=200)
  {ops:Array Oper} {o:Oper} {a:Act} {K:Act->World->Prop} {Q:Exit->Act->World->Prop} {E0:Prop} (ay:o.guard=none) (s x:Operand)
  (ho:o.op=.call { callee:=.builtin .append,args:=#[s,x],argTypes:=#[TS,TS] })
  (hs:a.eval s=v) (ae:Yw E T w b S xss v) (hS:∀k,S k->k<w.heap.size/\v.ownBlock≠some k) (A:Option Addr) (m c:Nat) (hx:a.eval x=.slice A m c) (S':Nat->Prop) (cs':List Value) (au:Zl w S' A cs') (af:ZK E w S yss cs') (hm:m=yss.length)
  (aa:xss.length+yss.length<=100000000) (hb:b<=w.heap.size)
  (h:∀v' w',Yw E T w' b S (xss++yss) v'->Below b w w'->K (a.put o.dst v') w') :
  if Region.wanted o (yielded ops a.tmps)=true then Oper.wp Tryz.prog o a w K Q else E0:=by
 obtain⟨i0,ax,ak,aj,ai⟩:=ag;subst hm;obtain⟨cs,ah,av⟩:=ae;have hl:=af.len;refine Tj w ay s x TS ho b T i0 _ E.size bytes hu ax ak aj ai hz E.pos v _ _ hs ah _ A _ c cs' hx hl au af.one (by simp only[maxLen];omega) ?_ hb ?_
 ·have:(xss.length+yss.length)*bytes<=100000000*200:=Nat.mul_le_mul aa az;omega
 intro v' w' h3 h4 h5;exact h v' w' ⟨cs++cs',by rw[List.length_append];exact h3,(av.append af).keep (S:=S) (fun p hp=>World.cell?_of_block (h4.block _ (hS _ hp).1 (fun e=>(hS _ hp).2 e.symm))) (fun _ h=>h)⟩ (WF _ ah h4 hb)
end
theorem V6 {W V:World} {bq g5 g7:Nat} {vq:Value} {L0:List ZB} {PT:Z9} {dr:List Int} {da:Int} {Ar B:Option Addr} {cr b:Nat}
  (hV:Below V.heap.size V W) (av:V.heap.size<=bq) (ag:bq<=W.heap.size) (how:Yw Zb 49 W bq (Lt bq) L0 vq) (ai:∀k,vq.ownBlock=some k->k≠g5)
  (h5:Z5 W g5 (.cells #[.int .i64 PT.kind,.string PT.text,.int .i64 PT.cols,.slice B PT.kids.length b] 24)) (h7:Z5 W g7 (.cells #[.int .i64 1,.slice Ar dr.length cr,.int .i64 (da+1),.int .i64 0,.slice (some ⟨g5,0,none⟩) 1 1,.int .i64 0,.string ⟨#[]⟩,.string ⟨#[]⟩] 49))
  (ak:Z0 V (Lt V.heap.size) dr (.slice Ar dr.length cr)) (hpt:Z8 Z7 V (Lt V.heap.size) PT.kids (.slice B PT.kids.length b)) (ae:Zt PT) (au:Z4 (da+1)) (hl:L0.length<=1000)
  {ops:Array Oper} {o:Oper} {a:Act} {K:Act->World->Prop} {Q:Exit->Act->World->Prop} {E0:Prop} (aj:o.guard=none) (s x:Operand)
  (ho:o.op=.call { callee:=.builtin .append,args:=#[s,x],argTypes:=#[33,33] }) (hs:a.eval s=vq) (hx:a.eval x=.slice (some ⟨g7,0,none⟩) 1 1)
  (h:∀v' w',Z8 Zb w' (Lt w'.heap.size) (L0++[Yc dr (da+1) [PT]]) v'->Below V.heap.size V w'->K (a.put o.dst v') w') :
  if Region.wanted o (yielded ops a.tmps)=true then Oper.wp Tryz.prog o a W K Q else E0:=by
 have af:=how.own_lt;have aa:∀k,Lt V.heap.size k->k<W.heap.size/\vq.ownBlock≠some k:=fun k hk=>⟨QV hk hV.size,fun e=>by
  have h1:=(af k e).1;have h2:k<V.heap.size:=hk;omega⟩
 have ah:Zb.R W (fun k=>k<W.heap.size/\vq.ownBlock≠some k) (Yc dr (da+1) [PT]) [.int .i64 1,.slice Ar dr.length cr,.int .i64 (da+1),.int .i64 0,.slice (some ⟨g5,0,none⟩) 1 1,.int .i64 0,.string ⟨#[]⟩,.string ⟨#[]⟩] :=
  ⟨_,_,rfl,by simp[Z4,Yc],au,by simp[Z4,Yc],by simp[Z4,Yc],QU _,QU _,ak.keep (fun p hp=>hV.cell hp) aa,
   TG (E:=Z7) (cs:=[.int .i64 PT.kind,.string PT.text,.int .i64 PT.cols,.slice B PT.kids.length b]) h5 (YI.2 ⟨_,rfl,ae.1,ae.2.1,ae.2.2,hpt.keep (fun p hp=>hV.cell hp) aa⟩) ⟨h5.lt,fun e=>ai _ e rfl⟩⟩
 refine zWh (E:=Zb) (TS:=33) (b:=bq) (S:=fun k=>k<W.heap.size/\vq.ownBlock≠some k) Tryz.underlying33 Vy rfl (by decide) aj s x ho hs (how.mono fun k hk=>⟨QV hk ag,fun e=>by
  have h1:=(af k e).1;have h2:k<bq:=hk;omega⟩) (fun _ hk=>hk) _ 1 1 hx (fun k=>k=g7) _ (fun _=>⟨g7,0,rfl,rfl,fun j u hu=>by rw[Nat.zero_add];exact(h7.cell j).trans (by simpa using hu)⟩) (ZK.single (E:=Zb) ah) rfl (by simp;omega) ag ?_
 intro v' w' h1 h2;exact h v' w' (h1.rows fun k hk=>QV hk.1 h2.size) (hV.trans (h2.mono av))
theorem Sd {W:World} {g:Nat} {o:Obj} (h:Z5 W g o):∃gb,g=gb:=⟨g,rfl⟩
theorem zWk (t:Z9) (p m:List Int):((ZI t p m).2≠0->XM t p m=(Zo,(ZI t p m).2))/\((ZI t p m).2=0->Zz t p=none->XM t p m=(Zo,8))/\((ZI t p m).2=0->∀x,Zz t p=some x ->
  (((ZI t p m).1.2.1<(ZI t p m).1.2.2\/(x.item.kind≠11/\x.item.kind≠10))->XM t p m=(Zo,7)) /\
  (¬((ZI t p m).1.2.1<(ZI t p m).1.2.2\/(x.item.kind≠11/\x.item.kind≠10))->XM t p m=XW t p m (Yx (x.row++[x.at_,x.own]) (p.getLastD 0) (Yp t (x.row++[x.at_,x.own]) (p.getLastD 0) ((ZY x.item x.own).kids.length:Int)).1++[Yc x.row (x.at_+1) [Zp x.item x.own.toNat (Yp t (x.row++[x.at_,x.own]) (p.getLastD 0) ((ZY x.item x.own).kids.length:Int)).1]]) (x.row++[x.at_+1,x.own,0]) [])):=by
 refine⟨fun h=>?_,fun h h1=>?_,fun h x h1=>⟨fun hc=>?_,fun hc=>?_⟩⟩
 ·unfold XM;rw[if_pos h]
 ·unfold XM;rw[if_neg (by simp[h]),h1]
 ·unfold XM;rw[if_neg (by simp[h]),h1];simp only;rw[if_pos hc]
 unfold XM;rw[if_neg (by simp[h]),h1];simp only;rw[if_neg hc];rfl
theorem zWb (t:Z9) (p m:List Int) (A Ap Am:Option Addr) (cap cp cm:Nat) (w:World) (hv:Z8 Z7 w (Lt w.heap.size) t.kids (.slice A t.kids.length cap)) (dP:Zt t) (dY:ZW t<=900000) (hp:Z0 w (Lt w.heap.size) p (.slice Ap p.length cp)) (hm:Z0 w (Lt w.heap.size) m (.slice Am m.length cm)) (fB:p.length<=90000) (fD:m.length<=90000) :
  Calls Tryz.prog 39 #[.agg #[.int .i64 t.kind,.string t.text,.int .i64 t.cols,.slice A t.kids.length cap],.agg #[.slice Ap p.length cp,.slice Am m.length cm]] w (Zv w (XM t p m)):=by
 have HE:=hid (zWk t p m);obtain⟨W0,gW,fO,dS,dR,fV⟩:=Ty t p m A Ap Am cap cp cm w;have aF:=hid dS;have aD:=hid dR;have dJ:=hid fO;have bC:=hid (RV t p m A Ap Am cap cp cm w);have CC:Hid (∀W,Below w.heap.size w W->Calls Tryz.prog 69 #[.agg #[.int .i64 t.kind,.string t.text,.int .i64 t.cols,.slice A t.kids.length cap],.agg #[.slice Ap p.length cp,.slice Am m.length cm]] W (X4 W (ZI t p m))):=fun W hW=>zLa t p m A Ap Am cap cp cm W (hv.below hW hW.size) dP.2.2 dY (hp.below hW hW.size) (hm.below hW hW.size)
 have aC:=hid (QS hv (QS dP (QS dY (QS hp (QS hm (QS fB fD))))));obtain⟨aQ,cK⟩:∃aQ,XM t p m=aQ:=⟨_,rfl⟩;rw[cK] at HE ⊢;obtain⟨m0,m1,m2,m3,n0,n1⟩:=bC.out W0 dS dR;clear hv dP dY hp hm fB fD fO dS dR cK;go_enter Tryz.func39,Tryz.ntmps39
 go_wp2_with fail
 obtain⟨⟨⟨rr,ra,rb⟩,se⟩,dQ⟩:∃OF,ZI t p m=OF:=⟨_,rfl⟩;have fU:=hid dQ;rw[dQ] at CC HE;refine(CC.out _ dJ.out).mono ?_;rintro e w1 ⟨v1,rfl,dO,cB⟩;simp only at dO;obtain⟨Ar1,cr1,rfl⟩:=dO.form;have fo:=hid (dJ.out.trans (cB.mono dJ.out.size));have aF:=hid (aF.out.below cB);have aD:=hid (aD.out.below cB);have HG:=hid (fV.out.below cB);clear cB m0 m1 m2 m3 n0 n1 CC dQ dJ dO fV gW
 go_upto_region 2 with (first
  |(refine sR 67 6 20 (Z5.at0 _ _) ?_)
  |fail)
 generalize hX:World.setRow _ _ _=X;have ag:=YL hX;have aO:=hid (XK hX);have aF:=hid (aF.out.below ag);have aD:=hid (aD.out.below ag);have HG:=hid (HG.out.below ag);have ak:=hid (fo.out.trans (ag.mono fo.out.size));obtain⟨gr,fG⟩:∃gr,w1.heap.size=gr:=⟨_,rfl⟩;simp only[fG] at aO ⊢;clear hX ag fo fG;by_cases dA:se=0;rotate_left
 ·have gF:(se != 0)=true:=by simp[dA]
  have HR:=hid (HE.out.1 dA);clear HE dA
  go_wp2_with (first
   |(refine sR 35 4 24 HG.out ?_)
   |fail)
  refine Yr Tryz.results39 Tryz.underlying35 (.int .i64 se) (HG.out.row _) ?_;rw[HR.out];exact UQ se (YV ak.out (by omega) _)
 subst dA;have eZ:=hid (HE.out.2.1 rfl);have eY:=hid (HE.out.2.2 rfl);clear HE;have gy:=hid (zKb t p A Ap cap cp X (aC.out.1.below ak.out ak.out.size) aC.out.2.1.2.2 aC.out.2.2.1 (aC.out.2.2.2.1.below ak.out ak.out.size) aC.out.2.2.2.2.2.1);have bJ:Hid (∀d,Zz t p=some d->Zt d.item/\ZW d.item<=1000/\d.row.length<=90000/\0<=d.at_/\d.at_<=1000/\∃s':Nat,d.own=s'/\s'<d.item.kids.length):=fun d hd=>zQx (m:=m) aC.out.1 (by rw[fU.out]) aC.out.2.2.2.2.2.1 hd
 obtain⟨m0,m1,m2,m3,n0,n1⟩:=bC.out X aF.out aD.out
 go_wp2_with fail
 refine gy.out.mono ?_;rintro e w7 ⟨fM,hx⟩;have aY:=hid fM;clear m0 m1 m2 m3 n0 n1 gy fM;rcases hx with ⟨fC,rfl⟩|⟨⟨dr,da,ds,di⟩,Ar,cr,Ai,ci,dN,rfl,fE,fF⟩
 ·have HR:=hid (eZ.out fC);clear fC bJ eZ eY
  go_upto_region 5 with (first
   |(refine sR 103 8 31 (Z5.at0 _ _) ?_)
   |fail)
  generalize hX:World.setRow _ _ _=X7;have ag:=YL hX;have gu:=hid (aY.out.trans (ag.mono aY.out.size));have HG:=hid (HG.out.below gu.out);have ak:=hid (ak.out.trans (gu.out.mono ak.out.size));clear hX ag
  go_wp2_with (first
   |(refine sR 35 4 36 HG.out ?_)
   |fail)
  refine Yr Tryz.results39 Tryz.underlying35 (.int .i64 8) (HG.out.row _) ?_;rw[HR.out];exact UQ 8 (YV ak.out (by omega) _)
 have bJ:=hid (bJ.out _ dN);obtain⟨-,-,-,-,-,s',rfl,-⟩:=bJ.out;have au:Hid (Zt di/\ZW di<=1000/\dr.length<=90000/\0<=da/\da<=1000/\s'<di.kids.length):=by
  obtain⟨x1,x2,x3,x4,x5,s9,x6,x7⟩:=bJ.out;exact⟨x1,x2,x3,x4,x5,by simp only at x6 x7;omega⟩
 have aM:Hid (Z0 w7 (Lt w7.heap.size) dr (.slice Ar dr.length cr)/\Z8 Z7 w7 (Lt w7.heap.size) di.kids (.slice Ai di.kids.length ci)):=⟨fE.keep (fun _ _=>rfl) (fun k hk=>QV hk aY.out.size),fF.keep (fun _ _=>rfl) (fun k hk=>QV hk aY.out.size)⟩;have iw:=hid dN;clear dN fE fF bJ eZ
 go_upto_region 5 with (first
  |(refine sR 103 8 31 (Z5.at0 _ _) ?_)
  |fail)
 generalize hX:World.setRow _ _ _=X7;have ag:=YL hX;have aB:=hid (XK hX);have dF:Hid (w7.heap.size≠w.heap.size+1+1):=fun e=>Nat.lt_irrefl _ (e ▸ (HG.out.below aY.out).lt)
 have aM:=hid (QS (aM.out.1.below ag ag.size) (aM.out.2.below ag ag.size));have aN:=aY.out.trans (ag.mono aY.out.size);have aF:=hid (aF.out.below aN);have aD:=hid (aD.out.below aN);have HG:=hid (HG.out.below aN);have aO:=hid (aO.out.below aN);have ak:=hid (ak.out.trans (aN.mono ak.out.size));have iC:Hid (w.heap.size≠w.heap.size+1+1):=hid (by show w.heap.size≠_;omega);have iB:Hid (w.heap.size+1≠w.heap.size+1+1):=hid (by show w.heap.size+1≠_;omega);obtain⟨ga,fI⟩:∃ga,w7.heap.size=ga:=⟨_,rfl⟩;simp only[fI] at aB dF ⊢;clear hX ag fI aN aY;have ek:=eY.out _ iw.out;simp only at ek;have dD:=hid ek;have g1:X7.cell? ⟨gr,1,none⟩=some (.int .i64 ra):=aO.out.cell 1;have g2:X7.cell? ⟨gr,2,none⟩=some (.int .i64 rb):=aO.out.cell 2;have z3:X7.cell? ⟨ga,3,none⟩=some (.int .i64 di.kind):=aB.out.cell 3;clear ek eY;by_cases hc:ra<rb\/(di.kind≠11/\di.kind≠10)
 ·have HR:=hid (dD.out.1 hc);clear dD;by_cases bR:ra<rb
  ·have hd:decide (ra<rb)=true:=by simpa using bR
   clear bR hc
   go_upto_region 8 with fail
   go_wp2_with (first
    |(refine sR 35 4 55 HG.out ?_)
    |fail)
   refine Yr Tryz.results39 Tryz.underlying35 (.int .i64 7) (HG.out.row _) ?_;rw[HR.out];exact UQ 7 (YV ak.out (by omega) _)
  have hd:decide (ra<rb)=false:=by simpa using bR
  have dX:di.kind≠11/\di.kind≠10:=hc.resolve_left bR;have dC:(di.kind != 11)=true:=by simpa using dX.1
  have il:(di.kind != 10)=true:=by simpa using dX.2
  clear bR hc dX
  go_upto_region 8 with fail
  go_wp2_with (first
   |(refine sR 35 4 55 HG.out ?_)
   |fail)
  refine Yr Tryz.results39 Tryz.underlying35 (.int .i64 7) (HG.out.row _) ?_;rw[HR.out];exact UQ 7 (YV ak.out (by omega) _)
 have df:=hid (dD.out.2 hc);have hd:decide (ra<rb)=false:=by rw[decide_eq_false_iff_not];omega
 have gQ:di.kind=11\/di.kind=10:=by omega
 obtain⟨dC,cu⟩:∃b,(di.kind != 11)=b:=⟨_,rfl⟩;have bi:dC=true->(di.kind != 10)=false:=fun h=>by rw[<-cu] at h;simp at h ⊢;omega
 have iq:Hid (∀{P:Prop},P->P):=hid (fun h=>h)
 -- the place of the cursor in its row
 obtain⟨dM,bg,_,_⟩:=VM (t:=t) (p:=p) (m:=m) (by rw[fU.out]);obtain⟨q,o,bM⟩:∃q o,p=q++[o]:=by
  have h1:=Rw _ _ bg;exact⟨p.dropLast,p.getLast (by intro e;subst e;simp at h1),(List.dropLast_concat_getLast _).symm⟩
 have aL:p.getLastD 0=o:=by rw[bM];simp
 have aJ:=bg;rw[bM] at aJ;obtain⟨hf,gM,gK⟩:=TE aJ;have gU:=Vq t q;have gT:=Yz (ZM t q).1;have gD:=(X0 dM).1;have gN:p.length=q.length+1:=by rw[bM];simp
 obtain⟨n,hn⟩:∃n,q.length=n:=⟨_,rfl⟩;obtain⟨gp,op,rfl,dB,fJ⟩:=zGp (aC.out.2.2.2.1) (by omega);have dB:gp<w.heap.size:=dB;have k0:X7.cell? ⟨gp,op+n,none⟩=some (.int .i64 o):=((ak.out.cell (p:=⟨gp,_,none⟩) dB).trans (fJ n (by omega))).trans (by simp[bM,<-hn]);have v3:IntKind.i64.wrap ((p.length:Int)-1)=(n:Int):=by rw[show (p.length:Int)-1=(n:Int) by omega];exact IntWalk.i64_in _ (by have:=aC.out.2.2.2.2.2.1;omega)
 have j0:(0:Int)<=(n:Int):=by omega
 have j1:(n:Int)<(p.length:Int):=by omega
 obtain⟨KD,ed⟩:∃KD,ZY di (s':Int)=KD:=⟨_,rfl⟩;have dV:KD=di.kids[s']'(au.out.2.2.2.2.2):=by rw[<-ed,Yq (by simpa using au.out.2.2.2.2.2)];simp
 have gP:KD.kids.length<=1000:=by
  have h1:=Yz KD;have h3:=Tz (t:=di) (i:=s') au.out.2.2.2.2.2;rw[<-dV] at h3;have:=au.out;omega
 obtain⟨nk,dU⟩:∃nk,KD.kids.length=nk:=⟨_,rfl⟩;obtain⟨LR,cO⟩:∃LR,Yp t (dr++[da,(s':Int)]) o (nk:Int)=LR:=⟨_,rfl⟩;have eT:Hid (ZT LR.1<=1000):=by show _<=_;rw[<-cO];exact zH5 dM _ _ _
 have bG:=df.out;simp only[aL,ed,dU,cO,Int.toNat_natCast] at bG;obtain⟨PT,bH⟩:∃PT,Zp di s' LR.1=PT:=⟨_,rfl⟩;rw[bH] at bG;obtain⟨L,le⟩:=LR;simp only at eT bG bH;have fZ:Hid (Zt PT/\ZW PT<=3000):=by
  have h9:=Tf di s' (Z6 L) 1001 (fun _=>by have:=eT.out;show 1+ZT L<=_;omega);have h8:ZW (Y0 di s' (Z6 L))=ZW PT:=by rw[<-bH];rfl
  have h7:=au.out;exact⟨by rw[<-bH];exact h7.1,by omega⟩
 have dG:=hid (show 0<=o/\o<=1000/\nk<=1000 from ⟨by omega,by omega,by omega⟩);obtain⟨_,_,rs,gI,bY,bQ,bL,bU⟩:=aM.out.2;cases gI;obtain⟨gk,ok,B9,b9,rs2,rfl,fH,_,_,_,y3,_,_,_,_,_,_,_⟩:=Y5 bL bU au.out.2.2.2.2.2;rw[<-dV,dU] at y3;have bW:gk<X7.heap.size:=fH;have KK:Hid (∀W,Below X7.heap.size X7 W->W.cell? ⟨gk,ok+s'*4+3,none⟩=some (.slice B9 nk b9)):=fun W hW=>(hW.cell (p:=⟨gk,_,none⟩) bW).trans y3
 have i0:(0:Int)<=(s':Int):=by omega
 have i1:(s':Int)<(di.kids.length:Int):=by have:=au.out;omega
 have eU:=hid (show di.kids.length<=1000 from by have:=au.out;have:=Yz di;omega);obtain⟨QR,dZ⟩:∃QR,dr++[da,(s':Int)]=QR:=⟨_,rfl⟩;rw[dZ] at bG cO;have iy:=hid dZ;clear dZ;have df:=hid bG;have eQ:=hid cO;have dh:=hid bH;clear bG cO hc gQ dD dM bg bM aL aJ hf gM gK gU gT gD gN hn dB fJ ed dV gP dU bH bL bU bY bQ fH bW y3 iq;have n0:X7.cell? ⟨w.heap.size+1,0,none⟩=some (.slice (some ⟨gp,op,none⟩) p.length cp):=aD.out.cell 0
 go_upto_region 7 with fail
 go_cut [37] (fun sl wx=>sl=.bool false/\wx=X7)
 case first =>
  cases dC
  case' true=>have il:(di.kind != 10)=false:=bi rfl
  case' false=>skip
  all_goals
   clear bi
   go_wp2_with fail
   go_meet;exact⟨rfl,rfl⟩
 obtain⟨rfl,dL⟩:=hcut;have dL:=dL.symm;subst dL;clear bi cu dC hd g1 g2 z3
 go_upto_region 10 with fail
 clear n0 v3 j0 j1 k0;have HB:=hid (Below.drew (QQ X7.heap.size X7));have bI:Hid (∀W g,Z5 W g (.cells #[.int .i64 da,.int .i64 (s':Int)] 3)->Below X7.heap.size X7 W->Calls Tryz.prog 72 #[.slice Ar dr.length cr,.slice (some ⟨g,0,none⟩) 2 2] W fun e w'=>∃Aq cq,e=.returned (.slice Aq QR.length cq)/\Z0 w' (fun k=>W.heap.size<=k/\k<w'.heap.size) QR (.slice Aq QR.length cq)/\Below W.heap.size W w'):=fun W g ho hW=>by
  have gH:Z0 W (Lt W.heap.size) [da,(s':Int)] (.slice (some ⟨g,0,none⟩) 2 2):=zWs (E:=ZF) (c1:=[.int .i64 da]) (c2:=[.int .i64 (s':Int)]) ho ⟨rfl,YS (by have:=au.out;omega)⟩ ⟨rfl,YS (by have:=au.out;have:=eU.out;omega)⟩ ho.lt;refine(zLb dr [da,(s':Int)] Ar (some ⟨g,0,none⟩) cr 2 W (aM.out.1.below hW hW.size) gH (by have:=au.out;simp;omega)).mono ?_;rintro e w' ⟨v,rfl,gL,gV⟩;have h9:=gL.ints (S:=fun k=>W.heap.size<=k/\k<w'.heap.size) (fun k h1 h2=>⟨h1,h2⟩);rw[iy.out] at h9;obtain⟨Aq,cq,rfl⟩:=h9.form;exact⟨Aq,cq,rfl,h9,gV⟩
 go_cut [11] (fun v wx=>∃g Aq cq,v=.pointer (some ⟨g,0,none⟩)/\Below X7.heap.size X7 wx/\Z5 wx g (.cells #[.slice Aq QR.length cq,.int .i64 o,.int .i64 (nk:Int)] 67)/\Z0 wx (Lt wx.heap.size) QR (.slice Aq QR.length cq))
 case first =>
  refine wp_region_noPanic ?_;refine wp_region_held_drew (S:=fun w'=>Below X7.heap.size X7 w') (by kernel_rfl) (Below.drew (QQ X7.heap.size X7)) (fun hHeld=>?_);refine tk 0 64 rfl ?_;refine tk 1 65 rfl ?_ (hy:=Or.inl ⟨by rfl,fun W hS=>by have h:W.cell? ⟨ga,0,none⟩=some (.slice Ar dr.length cr):=(aB.out.below hS).cell 0;clear hS;go_simp;try with_reducible rfl⟩);refine tk 2 66 rfl ?_;refine tk 3 67 rfl ?_ (hy:=Or.inl ⟨by rfl,fun W hS=>by have h:W.cell? ⟨ga,1,none⟩=some (.int .i64 da):=(aB.out.below hS).cell 1;clear hS;go_simp;try with_reducible rfl⟩);refine tk 4 68 rfl ?_;refine tk 5 69 rfl ?_ (hy:=Or.inl ⟨by rfl,fun W hS=>by have h:W.cell? ⟨ga,2,none⟩=some (.int .i64 (s':Int)):=(aB.out.below hS).cell 2;clear hS;go_simp;try with_reducible rfl⟩);refine tk 8 72 rfl ?_;refine tk 9 73 rfl ?_;refine tk 10 74 rfl ?_;refine tk 11 75 rfl ?_ (hy:=Or.inl ⟨by rfl,fun W hS=>by have h:W.cell? ⟨ga,6,none⟩=some (.slice (some ⟨gk,ok,none⟩) di.kids.length ci):=(aB.out.below hS).cell 6;clear hS;go_simp;try with_reducible rfl⟩);refine tk 12 76 rfl ?_;refine tk 13 77 rfl ?_ (hy:=Or.inl ⟨by rfl,fun W hS=>by have h:W.cell? ⟨ga,2,none⟩=some (.int .i64 (s':Int)):=(aB.out.below hS).cell 2;clear hS;go_simp;try with_reducible rfl⟩);refine tk 14 78 rfl ?_;refine tk 15 79 rfl ?_;refine tk 16 80 rfl ?_ (hy:=Or.inl ⟨by rfl,fun W hS=>by have h:=KK.out W hS;clear hS;go_simp;try with_reducible rfl⟩);refine tk 17 81 rfl ?_;refine rn [6,19] (rc (some 70) rfl (fun K hK=>?_) (rc (some 11) rfl (fun K hK=>?_) AllReadyH.nil))
  go_simp
  first|refine X6 (fun Xr av=>?_)|refine X8 (fun Xr av=>?_)
  have af:=av.out
  try have aa:=hid (QS aa.out.1 (aa.out.2.below af.1))
  first|have HB:=hid (HB.out.trans (af.1.mono HB.out.size))|have HB:=hid af.1
  have aA:=hid af.2;clear av af;refine hK.out _ _ (HB.out) (fun hHeld=>?_);clear hK K;refine rn [7,19] (rc (some 71) rfl (fun K hK=>?_) (rc (some 11) rfl (fun K hK=>?_) AllReadyH.nil));go_simp
  try have aL:=aa.out.2.lt
  refine Calls.mono (bI.out _ _ aA.out HB.out) ?_;rintro e wq ⟨Aq,cq,rfl,ax,ae⟩
  first|have ay:=hid (zV8 aL ax)|have ay:=hid (zV9 ax)
  try have aa:=hid (QS aa.out.1 (aa.out.2.below ae))
  have HB:=hid (HB.out.trans (ae.mono HB.out.size));clear ax ae;refine hK.out _ _ (HB.out) (fun hHeld=>?_);clear hK K;refine tk 18 82 rfl ?_;refine r1 19 (some 11) rfl (fun K hK=>?_);go_simp
  first|refine X8 (fun X9 ah=>?_)|refine X6 (fun X9 ah=>?_)
  obtain⟨gb,aj⟩:=Sd ah.out.2;simp only[aj];have ai:=ah.out
  try have aA:=hid (aA.out.below ai.1)
  try have ay:=hid (Sc aj ai.1 ay.out)
  have aa:Hid (X7.heap.size<=gb/\Z5 X9 gb (.cells #[.slice none 0 0,.int .i64 0,.int .i64 0] 67)):=hid (QS (by rw[<-aj];first|exact HB.out.size|exact QT _) (by rw[<-aj];exact ai.2))
  first|have HB:=hid (HB.out.trans (ai.1.mono HB.out.size))|have HB:=hid ai.1
  clear ai ah aj;refine hK.out _ _ (HB.out) (fun hHeld=>?_);clear hK K
  try simp only[qP,qN,qS,qZ,qC]
  rotate_left;go_simp
  first|refine X8 (fun X9 ah=>?_)|refine X6 (fun X9 ah=>?_)
  obtain⟨gb,aj⟩:=Sd ah.out.2;simp only[aj];have ai:=ah.out
  try have aA:=hid (aA.out.below ai.1)
  try have ay:=hid (Sc aj ai.1 ay.out)
  have aa:Hid (X7.heap.size<=gb/\Z5 X9 gb (.cells #[.slice none 0 0,.int .i64 0,.int .i64 0] 67)):=hid (QS (by rw[<-aj];first|exact HB.out.size|exact QT _) (by rw[<-aj];exact ai.2))
  first|have HB:=hid (HB.out.trans (ai.1.mono HB.out.size))|have HB:=hid ai.1
  clear ai ah aj;refine hK.out _ _ (HB.out) (fun hHeld=>?_);clear hK K;refine r1 7 (some 71) rfl (fun K hK=>?_);go_simp
  try have aL:=aa.out.2.lt
  refine Calls.mono (bI.out _ _ aA.out HB.out) ?_;rintro e wq ⟨Aq,cq,rfl,ax,ae⟩
  first|have ay:=hid (zV8 aL ax)|have ay:=hid (zV9 ax)
  try have aa:=hid (QS aa.out.1 (aa.out.2.below ae))
  have HB:=hid (HB.out.trans (ae.mono HB.out.size));clear ax ae;refine hK.out _ _ (HB.out) (fun hHeld=>?_);clear hK K;refine tk 18 82 rfl ?_;rotate_left;go_simp
  first|refine X8 (fun X9 ah=>?_)|refine X6 (fun X9 ah=>?_)
  obtain⟨gb,aj⟩:=Sd ah.out.2;simp only[aj];have ai:=ah.out
  try have aA:=hid (aA.out.below ai.1)
  try have ay:=hid (Sc aj ai.1 ay.out)
  have aa:Hid (X7.heap.size<=gb/\Z5 X9 gb (.cells #[.slice none 0 0,.int .i64 0,.int .i64 0] 67)):=hid (QS (by rw[<-aj];first|exact HB.out.size|exact QT _) (by rw[<-aj];exact ai.2))
  first|have HB:=hid (HB.out.trans (ai.1.mono HB.out.size))|have HB:=hid ai.1
  clear ai ah aj;refine hK.out _ _ (HB.out) (fun hHeld=>?_);clear hK K;refine r1 6 (some 70) rfl (fun K hK=>?_);go_simp
  first|refine X6 (fun Xr av=>?_)|refine X8 (fun Xr av=>?_)
  have af:=av.out
  try have aa:=hid (QS aa.out.1 (aa.out.2.below af.1))
  first|have HB:=hid (HB.out.trans (af.1.mono HB.out.size))|have HB:=hid af.1
  have aA:=hid af.2;clear av af;refine hK.out _ _ (HB.out) (fun hHeld=>?_);clear hK K;refine r1 7 (some 71) rfl (fun K hK=>?_);go_simp
  try have aL:=aa.out.2.lt
  refine Calls.mono (bI.out _ _ aA.out HB.out) ?_;rintro e wq ⟨Aq,cq,rfl,ax,ae⟩
  first|have ay:=hid (zV8 aL ax)|have ay:=hid (zV9 ax)
  try have aa:=hid (QS aa.out.1 (aa.out.2.below ae))
  have HB:=hid (HB.out.trans (ae.mono HB.out.size));clear ax ae;refine hK.out _ _ (HB.out) (fun hHeld=>?_);clear hK K;refine tk 18 82 rfl ?_;rotate_left
  all_goals
   refine r1 20 none rfl (fun K hK=>?_);rw[if_pos (by rfl)];refine wp_store_row 67 (.tmp 11) (.tmp 82) rfl gb _ rfl rfl 67 _ aa.out.2 (by kernel_rfl) (by simp) (by simp[Value.oneCell']) ?_;refine Wv aa.out.2 (fun X9 ah=>?_);have dx:=hid (HB.out.trans (ah.out.1.below HB.out.size (fun k e=>by rw[e];exact aa.out.1)));have eO:=hid (VJ ah.out ay.out);refine hK.out _ _ (dx.out) (fun hHeld=>?_);clear hK K
   try simp only[qP,qN,qS,qZ,qC]
   refine wpAnyH_done (by kernel_rfl) ?_ _;refine NoPanic.normal ?_
  all_goals
   go_wp2_with fail
   go_meet;exact⟨gb,_,_,rfl,dx.out,ah.out.2.1,eO.out⟩
 case rest =>
 obtain⟨eB,Aq,cq,rfl,ag,fA,fw⟩:=hcut;have aF:=hid (aF.out.below ag);have aD:=hid (aD.out.below ag);have HG:=hid (HG.out.below ag);have aB:=hid (aB.out.below ag);have aM:=hid (QS (aM.out.1.below ag ag.size) (aM.out.2.below ag ag.size));have ak:=hid (ak.out.trans (ag.mono ak.out.size));have aT:=hid fA;have bA:=hid fw;clear ag fA fw bI HB i0 i1 KK aO;generalize wc=aZ at *;obtain⟨m0,m1,m2,m3,n0,n1⟩:=bC.out aZ aF.out aD.out;have r0:aZ.cell? ⟨eB,0,none⟩=some (.slice Aq QR.length cq):=aT.out.cell 0;have r1:aZ.cell? ⟨eB,1,none⟩=some (.int .i64 o):=aT.out.cell 1;have r2:aZ.cell? ⟨eB,2,none⟩=some (.int .i64 (nk:Int)):=aT.out.cell 2;have gB:Hid (Calls Tryz.prog 79 #[.agg #[.int .i64 t.kind,.string t.text,.int .i64 t.cols,.slice A t.kids.length cap],.agg #[.slice Aq QR.length cq,.int .i64 o,.int .i64 (nk:Int)]] aZ (zWg aZ (L,le))):=by
  have h9:=zOp t QR o (nk:Int) A Aq cap cq aZ (aC.out.1.below ak.out ak.out.size) aC.out.2.1 aC.out.2.2.1 bA.out (YS (by have:=dG.out;omega)) (YS (by have:=dG.out;omega));rwa[eQ.out] at h9
 go_upto_region 12 with (first
  |(go_at_call 79;refine Calls.mono gB.out ?_;rintro e aH ⟨v12,rfl,aS,bZ⟩;simp only at aS;obtain⟨dz,cZ,rfl⟩:=aS.form;have dw:=hid aS;have az:=hid bZ;clear aS bZ)
  |fail)
 clear m0 m1 m2 m3 n0 n1 r0 r1 r2 gB;have aF:=hid (aF.out.below az.out);have aD:=hid (aD.out.below az.out);have HG:=hid (HG.out.below az.out);have aB:=hid (aB.out.below az.out);have aT:=hid (aT.out.below az.out);have bA:=hid (bA.out.below az.out az.out.size);have aM:=hid (QS (aM.out.1.below az.out az.out.size) (aM.out.2.below az.out az.out.size));have ak:=hid (ak.out.trans (az.out.mono ak.out.size));clear az;have HB:=hid (Below.drew (QQ aH.heap.size aH));have eG:Hid (∀W,Below aH.heap.size aH W->Calls Tryz.prog 52 #[.slice dz L.length cZ] W fun e w'=>e=.returned (.agg #[.int .i64 1,.string ⟨#[]⟩,.int .i64 0,.slice dz L.length cZ])/\Below W.heap.size W w'):=fun W _=>UU W dz L.length cZ
 have dE:Hid (∀W,Below aH.heap.size aH W->Calls Tryz.prog 80 #[.agg #[.int .i64 di.kind,.string di.text,.int .i64 di.cols,.slice (some ⟨gk,ok,none⟩) di.kids.length ci],.int .i64 (s':Int),.agg #[.int .i64 1,.string ⟨#[]⟩,.int .i64 0,.slice dz L.length cZ]] W fun e w'=>∃B b,e=.returned (.agg #[.int .i64 PT.kind,.string PT.text,.int .i64 PT.cols,.slice B PT.kids.length b])/\Z8 Z7 w' (fun q=>Lt aH.heap.size q\/W.heap.size<=q/\q<w'.heap.size) PT.kids (.slice B PT.kids.length b)/\Below W.heap.size W w'):=fun W hW=>by
  have h9:=Ry di (Z6 L) s' (some ⟨gk,ok,none⟩) dz ci cZ W (Lt aH.heap.size) (fun k h=>QV h hW.size) au.out.2.2.2.2.2 (by have:=eU.out;omega) ⟨by simp[Z4,Z6,Z9.kind],by simp[Z4,Z6,Z9.cols],QU _⟩ (aM.out.2.keep (fun p hp=>hW.cell hp) (fun _ h=>h)) (dw.out.keep (fun p hp=>hW.cell hp) (fun _ h=>h));have e9:Y0 di s' (Z6 L)=PT:=dh.out;rw[e9] at h9;refine h9.mono ?_;rintro e w' ⟨v,rfl,h1,h2⟩;obtain⟨B,b,rfl⟩:=h1.form;exact⟨B,b,rfl,h1,h2⟩
 go_cut [14] (fun v wx=>∃g B b,v=.pointer (some ⟨g,0,none⟩)/\Below aH.heap.size aH wx/\Z5 wx g (.cells #[.int .i64 PT.kind,.string PT.text,.int .i64 PT.cols,.slice B PT.kids.length b] 24)/\Z8 Z7 wx (Lt wx.heap.size) PT.kids (.slice B PT.kids.length b))
 case first =>
  refine wp_region_noPanic ?_;refine wp_region_held_drew (S:=fun w'=>Below aH.heap.size aH w') (by kernel_rfl) (Below.drew (QQ aH.heap.size aH)) (fun hHeld=>?_);refine tk 0 89 rfl ?_;refine tk 1 90 rfl ?_ (hy:=Or.inl ⟨by rfl,fun W hS=>by have h:=aB.out.below hS;have x3:=h.cell 3;have x4:=h.cell 4;have x5:=h.cell 5;have x6:=h.cell 6;simp only[List.getElem?_toArray,List.getElem?_cons_zero,List.getElem?_cons_succ] at x3 x4 x5 x6;clear hS h;go_simp;try with_reducible rfl⟩);refine tk 2 91 rfl ?_;refine tk 3 92 rfl ?_ (hy:=Or.inl ⟨by rfl,fun W hS=>by have h:W.cell? ⟨ga,2,none⟩=some (.int .i64 (s':Int)):=(aB.out.below hS).cell 2;clear hS;go_simp;try with_reducible rfl⟩);refine tk 4 93 rfl ?_;refine rn [5,7] (rc (some 94) rfl (fun K hK=>?_) (rc (some 14) rfl (fun K hK=>?_) AllReadyH.nil));go_simp;refine Calls.mono (eG.out _ HB.out) ?_;rintro e wq ⟨rfl,ae⟩
  try have aa:=hid (QS aa.out.1 (aa.out.2.below ae))
  have HB:=hid (HB.out.trans (ae.mono HB.out.size));clear ae;refine hK.out _ _ (HB.out) (fun hHeld=>?_);clear hK K;refine rn [6,7] (rc (some 95) rfl (fun K hK=>?_) (rc (some 14) rfl (fun K hK=>?_) AllReadyH.nil));go_simp
  try have aL:=aa.out.2.lt
  refine Calls.mono (dE.out _ HB.out) ?_;rintro e wq ⟨B,b,rfl,ax,ae⟩
  first|have ay:=hid (ax.keep (fun _ _=>rfl) (fun q hq=>VI aa.out.1 aL ae.size HB.out.size hq):Z8 Z7 wq (NG gb wq) PT.kids (.slice B PT.kids.length b))|have ay:=hid (ax.keep (fun _ _=>rfl) (fun q hq=>hq.elim (fun h=>QV h (QP HB.out.size ae.size)) (fun h=>h.2)):Z8 Z7 wq (Lt wq.heap.size) PT.kids (.slice B PT.kids.length b))
  try have aa:=hid (QS aa.out.1 (aa.out.2.below ae))
  have HB:=hid (HB.out.trans (ae.mono HB.out.size));clear ax ae;refine hK.out _ _ (HB.out) (fun hHeld=>?_);clear hK K;refine r1 7 (some 14) rfl (fun K hK=>?_);go_simp
  first|refine X8 (fun X9 ah=>?_)|refine X6 (fun X9 ah=>?_)
  obtain⟨gb,aj⟩:=Sd ah.out.2;simp only[aj];have ai:=ah.out
  try have ay:=hid (Sc aj ai.1 ay.out)
  have aa:Hid (aH.heap.size<=gb/\Z5 X9 gb (.cells #[.int .i64 0,.string ⟨#[]⟩,.int .i64 0,.slice none 0 0] 24)):=hid (QS (by rw[<-aj];first|exact HB.out.size|exact QT _) (by rw[<-aj];exact ai.2))
  first|have HB:=hid (HB.out.trans (ai.1.mono HB.out.size))|have HB:=hid ai.1
  clear ai ah aj;refine hK.out _ _ (HB.out) (fun hHeld=>?_);clear hK K
  try simp only[qP,qN,qS,qZ,qC]
  rotate_left;go_simp
  first|refine X8 (fun X9 ah=>?_)|refine X6 (fun X9 ah=>?_)
  obtain⟨gb,aj⟩:=Sd ah.out.2;simp only[aj];have ai:=ah.out
  try have ay:=hid (Sc aj ai.1 ay.out)
  have aa:Hid (aH.heap.size<=gb/\Z5 X9 gb (.cells #[.int .i64 0,.string ⟨#[]⟩,.int .i64 0,.slice none 0 0] 24)):=hid (QS (by rw[<-aj];first|exact HB.out.size|exact QT _) (by rw[<-aj];exact ai.2))
  first|have HB:=hid (HB.out.trans (ai.1.mono HB.out.size))|have HB:=hid ai.1
  clear ai ah aj;refine hK.out _ _ (HB.out) (fun hHeld=>?_);clear hK K;refine r1 6 (some 95) rfl (fun K hK=>?_);go_simp
  try have aL:=aa.out.2.lt
  refine Calls.mono (dE.out _ HB.out) ?_;rintro e wq ⟨B,b,rfl,ax,ae⟩
  first|have ay:=hid (ax.keep (fun _ _=>rfl) (fun q hq=>VI aa.out.1 aL ae.size HB.out.size hq):Z8 Z7 wq (NG gb wq) PT.kids (.slice B PT.kids.length b))|have ay:=hid (ax.keep (fun _ _=>rfl) (fun q hq=>hq.elim (fun h=>QV h (QP HB.out.size ae.size)) (fun h=>h.2)):Z8 Z7 wq (Lt wq.heap.size) PT.kids (.slice B PT.kids.length b))
  try have aa:=hid (QS aa.out.1 (aa.out.2.below ae))
  have HB:=hid (HB.out.trans (ae.mono HB.out.size));clear ax ae;refine hK.out _ _ (HB.out) (fun hHeld=>?_);clear hK K
  try simp only[qP,qN,qS,qZ,qC]
  rotate_left;go_simp
  first|refine X8 (fun X9 ah=>?_)|refine X6 (fun X9 ah=>?_)
  obtain⟨gb,aj⟩:=Sd ah.out.2;simp only[aj];have ai:=ah.out
  try have ay:=hid (Sc aj ai.1 ay.out)
  have aa:Hid (aH.heap.size<=gb/\Z5 X9 gb (.cells #[.int .i64 0,.string ⟨#[]⟩,.int .i64 0,.slice none 0 0] 24)):=hid (QS (by rw[<-aj];first|exact HB.out.size|exact QT _) (by rw[<-aj];exact ai.2))
  first|have HB:=hid (HB.out.trans (ai.1.mono HB.out.size))|have HB:=hid ai.1
  clear ai ah aj;refine hK.out _ _ (HB.out) (fun hHeld=>?_);clear hK K;refine r1 5 (some 94) rfl (fun K hK=>?_);go_simp;refine Calls.mono (eG.out _ HB.out) ?_;rintro e wq ⟨rfl,ae⟩
  try have aa:=hid (QS aa.out.1 (aa.out.2.below ae))
  have HB:=hid (HB.out.trans (ae.mono HB.out.size));clear ae;refine hK.out _ _ (HB.out) (fun hHeld=>?_);clear hK K;refine r1 6 (some 95) rfl (fun K hK=>?_);go_simp
  try have aL:=aa.out.2.lt
  refine Calls.mono (dE.out _ HB.out) ?_;rintro e wq ⟨B,b,rfl,ax,ae⟩
  first|have ay:=hid (ax.keep (fun _ _=>rfl) (fun q hq=>VI aa.out.1 aL ae.size HB.out.size hq):Z8 Z7 wq (NG gb wq) PT.kids (.slice B PT.kids.length b))|have ay:=hid (ax.keep (fun _ _=>rfl) (fun q hq=>hq.elim (fun h=>QV h (QP HB.out.size ae.size)) (fun h=>h.2)):Z8 Z7 wq (Lt wq.heap.size) PT.kids (.slice B PT.kids.length b))
  try have aa:=hid (QS aa.out.1 (aa.out.2.below ae))
  have HB:=hid (HB.out.trans (ae.mono HB.out.size));clear ax ae;refine hK.out _ _ (HB.out) (fun hHeld=>?_);clear hK K
  try simp only[qP,qN,qS,qZ,qC]
  rotate_left
  all_goals
   refine r1 8 none rfl (fun K hK=>?_);rw[if_pos (by rfl)];refine wp_store_row 24 (.tmp 14) (.tmp 95) rfl gb _ rfl rfl 24 _ aa.out.2 (by kernel_rfl) (by simp) (by simp[Value.oneCell']) ?_;refine Wv aa.out.2 (fun X9 ah=>?_);have dx:=hid (HB.out.trans (ah.out.1.below HB.out.size (fun k e=>by rw[e];exact aa.out.1)));have eO:=hid (VJ ah.out ay.out);refine hK.out _ _ (dx.out) (fun hHeld=>?_);clear hK K
   try simp only[qP,qN,qS,qZ,qC]
   refine wpAnyH_done (by kernel_rfl) ?_ _;refine NoPanic.normal ?_
  all_goals
   go_wp2_with fail
   go_meet;exact⟨gb,_,_,rfl,dx.out,ah.out.2.1,eO.out⟩
 case rest =>
 obtain⟨g14,B,b,rfl,ag,bP,hpt⟩:=hcut;have aF:=hid (aF.out.below ag);have aD:=hid (aD.out.below ag);have HG:=hid (HG.out.below ag);have aB:=hid (aB.out.below ag);have aT:=hid (aT.out.below ag);have bA:=hid (bA.out.below ag ag.size);have dH:=hid (aM.out.1.below ag ag.size);have ak:=hid (ak.out.trans (ag.mono ak.out.size));have dn:=hid bP;have fQ:=hid hpt;have eP:=hid fZ.out.1;clear ag bP hpt eG dE HB aM dw;generalize wc=aR at *;have v1:IntKind.i64.wrap (da+1)=da+1:=by have:=au.out;exact IntWalk.i64_in _ (by omega)
 have gm:=hid (show Z4 (da+1) from YS (by have:=au.out;omega));have gq:Hid ((Yx QR o L).length<=1000):=by show _<=_;unfold Yx;split<;>simp
 have dI:Hid (∀W,Below aR.heap.size aR W->Calls Tryz.prog 70 #[.agg #[.int .i64 t.kind,.string t.text,.int .i64 t.cols,.slice A t.kids.length cap],.agg #[.slice Aq QR.length cq,.int .i64 o,.int .i64 (nk:Int)]] W fun e w'=>∃vq bq,e=.returned vq/\Yw Zb 49 w' bq (Lt bq) (Yx QR o L) vq/\W.heap.size<=bq/\bq<=w'.heap.size/\Below W.heap.size W w'):=fun W hW=>by
  have hw:=ak.out.trans (hW.mono ak.out.size);have h9:=zMo t QR o (nk:Int) A Aq cap cq W (aC.out.1.below hw hw.size) aC.out.2.1 aC.out.2.2.1 (bA.out.below hW hW.size) (YS (by have:=dG.out;omega)) (YS (by have:=dG.out;omega));rw[eQ.out] at h9;exact h9
 have HB:=hid (Below.drew (QQ aR.heap.size aR));have aU:Hid ((Yx QR o L++[Yc dr (da+1) [PT]]).length<=2/\∀x∈Yx QR o L++[Yc dr (da+1) [PT]],ZT x.nodes<=100000):=by
  refine⟨by unfold Yx;split<;>simp,fun x hx=>?_⟩;rcases List.mem_append.1 hx with h|h
  ·unfold Yx at h;split at h
   ·cases h
   rw[List.mem_singleton.1 h];have:=eT.out;show ZT L<=_;omega
  rw[List.mem_singleton.1 h];have:=fZ.out.2;show ZW PT+0<=_;omega
 obtain⟨bz,bn⟩:∃bz,Yx QR o L++[Yc dr (da+1) [PT]]=bz:=⟨_,rfl⟩;have bB:=hid bn;rw[bn] at df aU;clear bn eQ dh
 go_upto_region 13 with fail
 go_cut [15] (fun v wx=>∃bD bu,v=.slice bD bz.length bu/\Below aR.heap.size aR wx/\Z8 Zb wx (Lt wx.heap.size) bz (.slice bD bz.length bu))
 case first =>
  refine wp_region_noPanic ?_;refine wp_region_held_drew (S:=fun w'=>Below aR.heap.size aR w') (by kernel_rfl) (Below.drew (QQ aR.heap.size aR)) (fun hHeld=>?_);refine tr 0 96 24 2 rfl (fun w hS=>aF.out.below hS) Tryz.underlying24 ?_;refine tr 1 97 67 11 rfl (fun w hS=>aT.out.below hS) Tryz.underlying67 ?_;refine tk 3 99 rfl ?_;refine tk 4 100 rfl ?_ (hy:=Or.inl ⟨by rfl,fun W hS=>by have h:W.cell? ⟨ga,0,none⟩=some (.slice Ar dr.length cr):=(aB.out.below hS).cell 0;clear hS;go_simp;try with_reducible rfl⟩);refine tk 5 101 rfl ?_;refine tk 6 102 rfl ?_ (hy:=Or.inl ⟨by rfl,fun W hS=>by have h:W.cell? ⟨ga,1,none⟩=some (.int .i64 da):=(aB.out.below hS).cell 1;clear hS;go_simp;try with_reducible rfl⟩);refine tk 7 103 rfl ?_;refine tr 8 104 24 14 rfl (fun w hS=>dn.out.below hS) Tryz.underlying24 ?_;refine rn [2,9] (rc (some 98) rfl (fun K hK=>?_) (rc (some 105) rfl (fun K hK=>?_) AllReadyH.nil));go_simp;refine Calls.mono (dI.out _ HB.out) ?_;rintro e wq ⟨vq,bq,rfl,how,aP,aX,ae⟩;have fe:=hid (QP HB.out.size aP)
  try have dm:=hid (fun k (hk:vq.ownBlock=some k)=>Nat.ne_of_gt (QV aI.out.lt (QP aP (how.own_lt k hk).1)))
  try have aI:=hid (aI.out.below ae)
  try have aV:=hid (aV.out.below ae)
  have HB:=hid (HB.out.trans (ae.mono HB.out.size));have aK:=hid how;have aG:=hid aX;clear how aP aX ae;refine hK.out _ _ (HB.out) (fun hHeld=>?_);clear hK K;refine r1 9 (some 105) rfl (fun K hK=>?_);go_simp
  first|refine X6 (fun Xr av=>?_)|refine X8 (fun Xr av=>?_)
  have af:=av.out
  try have aa:=hid (QS aa.out.1 (aa.out.2.below af.1))
  try have dm:=hid (fun k (hk:vq.ownBlock=some k)=>Nat.ne_of_lt (aK.out.own_lt k hk).2)
  try have aK:=hid (aK.out.below (fun k hk=>QV hk aG.out) af.1)
  try have aG:=hid (QP aG.out af.1.size)
  first|have HB:=hid (HB.out.trans (af.1.mono HB.out.size))|have HB:=hid af.1
  have aI:=hid af.2;clear av af;refine hK.out _ _ (HB.out) (fun hHeld=>?_);clear hK K;refine tk 10 106 rfl ?_;refine r1 11 (some 107) rfl (fun K hK=>?_);go_simp
  first|refine X6 (fun Xr av=>?_)|refine X8 (fun Xr av=>?_)
  have af:=av.out
  try have aI:=hid (aI.out.below af.1)
  try have aa:=hid (QS aa.out.1 (aa.out.2.below af.1))
  try have aK:=hid (aK.out.below (fun k hk=>QV hk aG.out) af.1)
  try have aG:=hid (QP aG.out af.1.size)
  first|have HB:=hid (HB.out.trans (af.1.mono HB.out.size))|have HB:=hid af.1
  have aV:=hid af.2;clear av af;refine hK.out _ _ (HB.out) (fun hHeld=>?_);clear hK K
  try simp only[qP,qN,qS,qZ,qC]
  rotate_left;go_simp
  first|refine X6 (fun Xr av=>?_)|refine X8 (fun Xr av=>?_)
  have af:=av.out
  try have aa:=hid (QS aa.out.1 (aa.out.2.below af.1))
  try have dm:=hid (fun k (hk:vq.ownBlock=some k)=>Nat.ne_of_lt (aK.out.own_lt k hk).2)
  try have aK:=hid (aK.out.below (fun k hk=>QV hk aG.out) af.1)
  try have aG:=hid (QP aG.out af.1.size)
  first|have HB:=hid (HB.out.trans (af.1.mono HB.out.size))|have HB:=hid af.1
  have aI:=hid af.2;clear av af;refine hK.out _ _ (HB.out) (fun hHeld=>?_);clear hK K;refine tk 10 106 rfl ?_;refine rn [2,11] (rc (some 98) rfl (fun K hK=>?_) (rc (some 107) rfl (fun K hK=>?_) AllReadyH.nil));go_simp;refine Calls.mono (dI.out _ HB.out) ?_;rintro e wq ⟨vq,bq,rfl,how,aP,aX,ae⟩;have fe:=hid (QP HB.out.size aP)
  try have dm:=hid (fun k (hk:vq.ownBlock=some k)=>Nat.ne_of_gt (QV aI.out.lt (QP aP (how.own_lt k hk).1)))
  try have aI:=hid (aI.out.below ae)
  try have aV:=hid (aV.out.below ae)
  have HB:=hid (HB.out.trans (ae.mono HB.out.size));have aK:=hid how;have aG:=hid aX;clear how aP aX ae;refine hK.out _ _ (HB.out) (fun hHeld=>?_);clear hK K;refine r1 11 (some 107) rfl (fun K hK=>?_);go_simp
  first|refine X6 (fun Xr av=>?_)|refine X8 (fun Xr av=>?_)
  have af:=av.out
  try have aI:=hid (aI.out.below af.1)
  try have aa:=hid (QS aa.out.1 (aa.out.2.below af.1))
  try have aK:=hid (aK.out.below (fun k hk=>QV hk aG.out) af.1)
  try have aG:=hid (QP aG.out af.1.size)
  first|have HB:=hid (HB.out.trans (af.1.mono HB.out.size))|have HB:=hid af.1
  have aV:=hid af.2;clear av af;refine hK.out _ _ (HB.out) (fun hHeld=>?_);clear hK K
  try simp only[qP,qN,qS,qZ,qC]
  rotate_left;go_simp
  first|refine X6 (fun Xr av=>?_)|refine X8 (fun Xr av=>?_)
  have af:=av.out
  try have aI:=hid (aI.out.below af.1)
  try have aa:=hid (QS aa.out.1 (aa.out.2.below af.1))
  try have aK:=hid (aK.out.below (fun k hk=>QV hk aG.out) af.1)
  try have aG:=hid (QP aG.out af.1.size)
  first|have HB:=hid (HB.out.trans (af.1.mono HB.out.size))|have HB:=hid af.1
  have aV:=hid af.2;clear av af;refine hK.out _ _ (HB.out) (fun hHeld=>?_);clear hK K;refine r1 2 (some 98) rfl (fun K hK=>?_);go_simp;refine Calls.mono (dI.out _ HB.out) ?_;rintro e wq ⟨vq,bq,rfl,how,aP,aX,ae⟩;have fe:=hid (QP HB.out.size aP)
  try have dm:=hid (fun k (hk:vq.ownBlock=some k)=>Nat.ne_of_gt (QV aI.out.lt (QP aP (how.own_lt k hk).1)))
  try have aI:=hid (aI.out.below ae)
  try have aV:=hid (aV.out.below ae)
  have HB:=hid (HB.out.trans (ae.mono HB.out.size));have aK:=hid how;have aG:=hid aX;clear how aP aX ae;refine hK.out _ _ (HB.out) (fun hHeld=>?_);clear hK K
  try simp only[qP,qN,qS,qZ,qC]
  rotate_left
  all_goals
   refine r1 12 (some 108) rfl (fun K hK=>?_);refine V6 HB.out fe.out aG.out aK.out dm.out aI.out aV.out dH.out fQ.out eP.out gm.out gq.out rfl (.tmp 98) (.tmp 107) (by rfl) (by rfl) (by rfl) ?_;intro v8 w8 eu fP;obtain⟨bD,bu,rfl⟩:=eu.form;have iA:=hid eu;have HB:=hid fP;clear eu fP;refine hK.out _ _ (HB.out) (fun hHeld=>?_);clear hK K;refine tk 13 15 rfl ?_;refine wpAnyH_done (by kernel_rfl) ?_ _;refine NoPanic.normal ?_
  all_goals
   go_wp2_with fail
   go_meet;exact⟨bD,bu,by rw[<-bB.out];simp,HB.out,by rw[<-bB.out];exact iA.out⟩
 case rest =>
 obtain⟨bD,bu,rfl,ag,bN⟩:=hcut;have aF:=hid (aF.out.below ag);have aD:=hid (aD.out.below ag);have HG:=hid (HG.out.below ag);have aB:=hid (aB.out.below ag);have dH:=hid (dH.out.below ag ag.size);have ak:=hid (ak.out.trans (ag.mono ak.out.size));have fT:=hid bN;clear ag bN dI HB aT bA dn fQ gq bB;generalize wc=aW at *;obtain⟨pos,aJ⟩:∃pos,dr++[da+1,(s':Int),0]=pos:=⟨_,rfl⟩;rw[aJ] at df;have bI:Hid (∀W g,Z5 W g (.cells #[.int .i64 (da+1),.int .i64 (s':Int),.int .i64 0] 3)->Below aW.heap.size aW W->Calls Tryz.prog 72 #[.slice Ar dr.length cr,.slice (some ⟨g,0,none⟩) 3 3] W (WZ W pos)):=fun W g ho hW=>by
  have gG:Z0 W (Lt W.heap.size) [da+1,(s':Int),0] (.slice (some ⟨g,0,none⟩) 3 3):=zWa (E:=ZF) (c1:=[.int .i64 (da+1)]) (c2:=[.int .i64 (s':Int)]) (c3:=[.int .i64 0]) ho ⟨rfl,gm.out⟩ ⟨rfl,YS (by have:=au.out;have:=eU.out;omega)⟩ ⟨rfl,by simp[Z4]⟩ ho.lt;rw[<-aJ];exact(zLb dr [da+1,(s':Int),0] Ar (some ⟨g,0,none⟩) cr 3 W (dH.out.below hW hW.size) gG (by have:=au.out;simp;omega)).mono fun e w' h=>Wl.ints h
 have iD:Hid (∀W Aq cq,Below aW.heap.size aW W->Z0 W (Lt W.heap.size) pos (.slice Aq pos.length cq)->Calls Tryz.prog 71 #[.agg #[.int .i64 t.kind,.string t.text,.int .i64 t.cols,.slice A t.kids.length cap],.agg #[.slice (some ⟨gp,op,none⟩) p.length cp,.slice Am m.length cm],.slice bD bz.length bu,.slice Aq pos.length cq] W (Zv W aQ)):=fun W Aq cq hW gJ=>by
  have hw:=ak.out.trans (hW.mono ak.out.size);rw[df.out];exact zMn t p m pos bz A (some ⟨gp,op,none⟩) Am bD Aq cap cp cm bu cq W (aC.out.1.below hw hw.size) aC.out.2.1 aC.out.2.2.1 (aC.out.2.2.2.1.below hw hw.size) (aC.out.2.2.2.2.1.below hw hw.size) gJ (fT.out.below hW hW.size) (QP aU.out.1 (by decide)) (fun k hk=>aU.out.2 _ (List.getElem_mem hk))
 have HW:Hid (Below aW.heap.size aW aW):=hid (QQ _ _);clear aJ aU fT
 go_upto_region 14 with fail
 refine wp_region_noPanic ?_;refine wp_region_held_drew (S:=fun w'=>ZZ (fun k=>k=w.heap.size+1+1) aW w') (by kernel_rfl) (kwt HW.out) (fun hHeld=>?_);refine tr 0 109 24 2 rfl (fun w hS=>hS.obj aF.out iC.out) Tryz.underlying24 ?_;refine tr 1 110 27 3 rfl (fun w hS=>hS.obj aD.out iB.out) Tryz.underlying27 ?_;refine tk 2 111 rfl ?_;refine tk 3 112 rfl ?_;refine tk 4 113 rfl ?_ (hy:=Or.inl ⟨by rfl,fun W hS=>by have h:W.cell? ⟨ga,0,none⟩=some (.slice Ar dr.length cr):=(hS.obj aB.out dF.out).cell 0;clear hS;go_simp;try with_reducible rfl⟩);refine tk 5 114 rfl ?_;refine tk 6 115 rfl ?_ (hy:=Or.inl ⟨by rfl,fun W hS=>by have h:W.cell? ⟨ga,1,none⟩=some (.int .i64 da):=(hS.obj aB.out dF.out).cell 1;clear hS;go_simp;try with_reducible rfl⟩);refine tk 7 116 rfl ?_;refine tk 8 117 rfl ?_;refine tk 9 118 rfl ?_ (hy:=Or.inl ⟨by rfl,fun W hS=>by have h:W.cell? ⟨ga,2,none⟩=some (.int .i64 (s':Int)):=(hS.obj aB.out dF.out).cell 2;clear hS;go_simp;try with_reducible rfl⟩);refine r1 10 (some 119) rfl (fun K hK=>?_);go_simp
 first|refine X6 (fun Xr av=>?_)|refine X8 (fun Xr av=>?_)
 have HW:=hid ((bwt HW.out).trans (av.out.1.mono (bwt HW.out).size));have aA:=hid av.out.2;clear av;refine hK.out _ _ (kwt HW.out) (fun hHeld=>?_);clear hK K;refine r1 11 (some 120) rfl (fun K hK=>?_);go_simp;refine Calls.mono (bI.out _ _ aA.out (bwt HW.out)) ?_;rintro e wq ⟨vq,rfl,ax,ae⟩;obtain⟨Aq,cq,rfl⟩:=ax.form;have ay:=hid ax;have HW:=hid ((bwt HW.out).trans (ae.mono (bwt HW.out).size));clear ax ae;refine hK.out _ _ (kwt HW.out) (fun hHeld=>?_);clear hK K;refine r1 12 (some 121) rfl (fun K hK=>?_);go_simp;refine Calls.mono (iD.out _ _ _ (bwt HW.out) ay.out) ?_;rintro e wk bK;have eH:=hid bK;obtain⟨iF,gY,iE,gX,iG,gZ,fq,eD,fu,eF,rfl,_,_,_,_,_,fK⟩:=bK;have HW:=hid ((bwt HW.out).trans (fK.mono (bwt HW.out).size));have eX:=hid (HG.out.below HW.out);clear fK;refine hK.out _ _ (kwt HW.out) (fun hHeld=>?_);clear hK K;refine tk 13 122 rfl ?_;refine tk 14 123 rfl ?_;rotate_left
 all_goals
  refine r1 15 none rfl (fun K hK=>?_);rw[if_pos (by rfl)];refine wp_store_row 35 (.tmp 4) (.tmp 122) rfl (w.heap.size+1+1) #[.slice iF aQ.1.ops.length gY,.slice iE aQ.1.bp.length gX,.slice iG aQ.1.bm.length gZ,.slice fq aQ.1.ap.length eD,.slice fu aQ.1.am.length eF] rfl rfl 35 _ eX.out (by kernel_rfl) (by simp) (by simp[Value.oneCell']) ?_;refine Wv eX.out (fun X9 ah=>?_);refine hK.out _ _ ((kwt HW.out).trans' ah.out.1) (fun hHeld=>?_);clear hK K;refine tk 16 5 rfl ?_;refine wpAnyH_done (by kernel_rfl) ?_ _;refine NoPanic.normal ?_
 all_goals
  first|refine(‹∀(a:Act) (dK:World),Code.wp Tryz.prog Code.ret (bodyPost Tryz.prog Tryz.f39 (Zv w aQ)) a dK->_›) _ _ (wp_ret ?_)|refine(‹∀(a:Act) (dK:World),Code.wp Tryz.prog Code.ret (Exit.then _ (bodyPost Tryz.prog Tryz.f39 (Zv w aQ))) a dK->_›) _ _ (wp_ret ?_)
  refine Yr Tryz.results39 Tryz.underlying35 (.int .i64 aQ.2) ah.out.2.1 ?_;exact Zv.put (arr:=#[]) eH.out eX.out ah.out.1 ah.out.2.2 (ak.out.trans (HW.out.mono ak.out.size)) (by omega)
theorem Va {w:World} {a:Addr} {v:Value} (h:w.cell? a=some v):a.block<w.heap.size:=by
 rcases Nat.lt_or_ge a.block w.heap.size with h1|h1
 ·exact h1
 rw[World.cell?] at h;rw[Array.getElem?_eq_none h1] at h;simp at h
theorem zWl (t:Z9) (p m:List Int) (columns:Bool):((ZI t p m).2≠0->Xe t p m columns=(Zo,(ZI t p m).2))/\((ZI t p m).2=0->Zz t p=none->Xe t p m columns=(Zo,8))/\((ZI t p m).2=0->∀dr da (s':Nat) di,Zz t p=some ⟨dr,da,(s':Int),di⟩ ->
  (di.kind≠12->Xe t p m columns=(Zo,7)) /\
  (di.kind=12->∃c:Nat,di.cols=(c:Int)/\1<=c/\c<=16/\di.kids.length<=256/\s'<di.kids.length /\
   Xe t p m columns=XW t p m [Yn dr da [di],Yc dr da [.mk 12 ZQ (if columns then (c:Int)+1 else (c:Int)) (Zm (Z6 []) c s' columns di.kids di.kids.length)]] (dr++[da,(WO c s' columns:Int),p.getLastD 0]) [])):=by
 obtain⟨h1,h2,h3⟩:=zS3 t p m columns;refine⟨h1,h2,fun he dr da s' di ha=>?_⟩;rcases zSs he with h|⟨q2,i,s2,it,its,o,aa,hp,⟨hs,hk⟩,ho⟩
 ·rw[h] at ha;cases ha
 rw[aa] at ha;injection ha with ha
 injection ha with e1 e2 e3 e4
 subst e1 e2 e4;have e5:s2=s':=by omega
 subst e5;rcases hof:ZI t p m with ⟨⟨rr,ra,rb⟩,er⟩;rw[hof] at he;simp only at he;subst he;obtain⟨g1,g2⟩:=h3 rr ra rb q2 i s2 it o hof aa hp hs;refine⟨g1,fun hc=>?_⟩;obtain⟨c,ae,c1,c2,c3,c4,c5⟩:=g2 hc;have e6:p.getLastD 0=o:=by rw[hp];simp
 exact⟨c,ae,c1,c2,c3,hs,by rw[e6];exact c5⟩
theorem zWe (t:Z9) (p m:List Int) (columns:Bool) (A Ap Am:Option Addr) (cap cp cm:Nat) (w:World) (hv:Z8 Z7 w (Lt w.heap.size) t.kids (.slice A t.kids.length cap)) (eX:Zt t) (fA:ZW t<=900000) (hp:Z0 w (Lt w.heap.size) p (.slice Ap p.length cp)) (hm:Z0 w (Lt w.heap.size) m (.slice Am m.length cm)) (gX:p.length<=90000) (gZ:m.length<=90000) :
  Calls Tryz.prog 41 #[.agg #[.int .i64 t.kind,.string t.text,.int .i64 t.cols,.slice A t.kids.length cap],.agg #[.slice Ap p.length cp,.slice Am m.length cm],.bool columns] w (Zv w (Xe t p m columns)):=by
 have HE:=hid (zWl t p m columns);obtain⟨W0,jv,iL,eZ,aH,iT⟩:=Ty t p m A Ap Am cap cp cm w;have aY:=hid eZ;have aC:=hid aH;have eF:=hid iL;have dR:=hid (RV t p m A Ap Am cap cp cm w);have CC:Hid (∀W,Below w.heap.size w W->Calls Tryz.prog 69 #[.agg #[.int .i64 t.kind,.string t.text,.int .i64 t.cols,.slice A t.kids.length cap],.agg #[.slice Ap p.length cp,.slice Am m.length cm]] W (X4 W (ZI t p m))):=fun W hW=>zLa t p m A Ap Am cap cp cm W (hv.below hW hW.size) eX.2.2 fA (hp.below hW hW.size) (hm.below hW hW.size)
 have aL:=hid (QS hv (QS eX (QS fA (QS hp (QS hm (QS gX gZ))))));obtain⟨aO,dM⟩:∃aO,Xe t p m columns=aO:=⟨_,rfl⟩;rw[dM] at HE ⊢;obtain⟨m0,m1,m2,m3,n0,n1⟩:=dR.out W0 eZ aH;clear hv eX fA hp hm gX gZ iL eZ aH dM;go_enter Tryz.func41,Tryz.ntmps41
 go_wp2_with fail
 obtain⟨⟨⟨rr,ra,rb⟩,se⟩,eY⟩:∃OF,ZI t p m=OF:=⟨_,rfl⟩;have fJ:=hid eY;rw[eY] at CC HE;refine(CC.out _ eF.out).mono ?_;rintro e w1 ⟨v1,rfl,eU,dK⟩;simp only at eU;obtain⟨Ar1,cr1,rfl⟩:=eU.form;have gH:=hid (eF.out.trans (dK.mono eF.out.size));have aY:=hid (aY.out.below dK);have aC:=hid (aC.out.below dK);have HG:=hid (iT.out.below dK);clear dK m0 m1 m2 m3 n0 n1 CC eY eF eU iT jv
 go_upto_region 2 with (first
  |(refine sR 67 8 22 (Z5.at0 _ _) ?_)
  |fail)
 generalize hX:World.setRow _ _ _=X;have aI:=YL hX;have bi:=hid (XK hX);have aY:=hid (aY.out.below aI);have aC:=hid (aC.out.below aI);have HG:=hid (HG.out.below aI);have ak:=hid (gH.out.trans (aI.mono gH.out.size));obtain⟨gr,iD⟩:∃gr,w1.heap.size=gr:=⟨_,rfl⟩;simp only[iD] at bi ⊢;clear hX aI gH iD;by_cases dS:se=0;rotate_left
 ·have jd:(se != 0)=true:=by simp[dS]
  have HR:=hid (HE.out.1 dS);clear HE dS
  go_wp2_with (first
   |(refine sR 35 6 26 HG.out ?_)
   |fail)
  refine Yr Tryz.results41 Tryz.underlying35 (.int .i64 se) (HG.out.row _) ?_;rw[HR.out];exact UQ se (YV ak.out (by omega) _)
 subst dS;have gq:=hid (HE.out.2.1 rfl);have gm:=hid (HE.out.2.2 rfl);clear HE;have iX:=hid (zKb t p A Ap cap cp X (aL.out.1.below ak.out ak.out.size) aL.out.2.1.2.2 aL.out.2.2.1 (aL.out.2.2.2.1.below ak.out ak.out.size) aL.out.2.2.2.2.2.1);have dh:Hid (∀d,Zz t p=some d->Zt d.item/\ZW d.item<=1000/\d.row.length<=90000/\0<=d.at_/\d.at_<=1000/\∃s':Nat,d.own=s'/\s'<d.item.kids.length):=fun d hd=>zQx (m:=m) aL.out.1 (by rw[fJ.out]) aL.out.2.2.2.2.2.1 hd
 obtain⟨m0,m1,m2,m3,n0,n1⟩:=dR.out X aY.out aC.out
 go_wp2_with fail
 refine iX.out.mono ?_;rintro e w7 ⟨iK,hx⟩;have bG:=hid iK;clear m0 m1 m2 m3 n0 n1 iX iK;rcases hx with ⟨gY,rfl⟩|⟨⟨dr,da,ds,di⟩,Ar,cr,Ai,ci,eQ,rfl,iB,iC⟩
 ·have HR:=hid (gq.out gY);clear gY dh gq gm
  go_upto_region 5 with (first
   |(refine sR 103 10 33 (Z5.at0 _ _) ?_)
   |fail)
  generalize hX:World.setRow _ _ _=X7;have aI:=YL hX;have iW:=hid (bG.out.trans (aI.mono bG.out.size));have HG:=hid (HG.out.below iW.out);have ak:=hid (ak.out.trans (iW.out.mono ak.out.size));clear hX aI
  go_wp2_with (first
   |(refine sR 35 6 38 HG.out ?_)
   |fail)
  refine Yr Tryz.results41 Tryz.underlying35 (.int .i64 8) (HG.out.row _) ?_;rw[HR.out];exact UQ 8 (YV ak.out (by omega) _)
 have dh:=hid (dh.out _ eQ);obtain⟨-,-,-,-,-,s',rfl,-⟩:=dh.out;have aF:Hid (Zt di/\ZW di<=1000/\dr.length<=90000/\0<=da/\da<=1000/\s'<di.kids.length):=by
  obtain⟨x1,x2,x3,x4,x5,s9,x6,x7⟩:=dh.out;exact⟨x1,x2,x3,x4,x5,by simp only at x6 x7;omega⟩
 have cZ:Hid (Z0 w7 (Lt w7.heap.size) dr (.slice Ar dr.length cr)/\Z8 Z7 w7 (Lt w7.heap.size) di.kids (.slice Ai di.kids.length ci)):=⟨iB.keep (fun _ _=>rfl) (fun k hk=>QV hk bG.out.size),iC.keep (fun _ _=>rfl) (fun k hk=>QV hk bG.out.size)⟩;have iR:=hid eQ;clear eQ iB iC dh gq
 go_upto_region 5 with (first
  |(refine sR 103 10 33 (Z5.at0 _ _) ?_)
  |fail)
 generalize hX:World.setRow _ _ _=X7;have aI:=YL hX;have ay:=hid (XK hX);have fK:Hid (w7.heap.size≠w.heap.size+1+1):=fun e=>Nat.lt_irrefl _ (e ▸ (HG.out.below bG.out).lt)
 have cZ:=hid (QS (cZ.out.1.below aI aI.size) (cZ.out.2.below aI aI.size));have aN:=bG.out.trans (aI.mono bG.out.size);have aY:=hid (aY.out.below aN);have aC:=hid (aC.out.below aN);have HG:=hid (HG.out.below aN);have bi:=hid (bi.out.below aN);have ak:=hid (ak.out.trans (aN.mono ak.out.size));have jH:Hid (w.heap.size≠w.heap.size+1+1):=hid (by show w.heap.size≠_;omega);have fM:Hid (w.heap.size+1≠w.heap.size+1+1):=hid (by show w.heap.size+1≠_;omega);obtain⟨ga,iE⟩:∃ga,w7.heap.size=ga:=⟨_,rfl⟩;simp only[iE] at ay fK ⊢;clear hX aI iE aN bG;have eD:=hid (gm.out dr da s' di iR.out);have z3:X7.cell? ⟨ga,3,none⟩=some (.int .i64 di.kind):=ay.out.cell 3;clear gm;by_cases aM:di.kind=12;rotate_left
 ·have HR:=hid (eD.out.1 aM);have iO:(di.kind != 12)=true:=by simpa using aM
  clear eD aM
  go_wp2_with (first
   |(refine sR 35 6 44 HG.out ?_)
   |fail)
  refine Yr Tryz.results41 Tryz.underlying35 (.int .i64 7) (HG.out.row _) ?_;rw[HR.out];exact UQ 7 (YV ak.out (by omega) _)
 obtain⟨c,fB,c1,c2,c3,gU,hR⟩:=eD.out.2 aM;have iO:(di.kind != 12)=false:=by simpa using aM
 have z5:X7.cell? ⟨ga,5,none⟩=some (.int .i64 (c:Int)):=by rw[<-fB];exact ay.out.cell 5
 -- the place of the cursor in its row
 obtain⟨gT,bI,_,_⟩:=VM (t:=t) (p:=p) (m:=m) (by rw[fJ.out]);obtain⟨q,o,dz⟩:∃q o,p=q++[o]:=by
  have h1:=Rw _ _ bI;exact⟨p.dropLast,p.getLast (by intro e;subst e;simp at h1),(List.dropLast_concat_getLast _).symm⟩
 have au:p.getLastD 0=o:=by rw[dz];simp
 have aG:=bI;rw[dz] at aG;obtain⟨hf,jk,ji⟩:=TE aG;have jr:=Vq t q;have dE:=Yz (ZM t q).1;have jc:=(X0 gT).1;have jl:p.length=q.length+1:=by rw[dz];simp
 obtain⟨n,hn⟩:∃n,q.length=n:=⟨_,rfl⟩;obtain⟨gp,op,rfl,dY,iG⟩:=zGp (aL.out.2.2.2.1) (by omega);have dY:gp<w.heap.size:=dY;have jJ:Hid (¬(⟨gp,op+n,none⟩:Addr).block=w.heap.size+1+1):=by show ¬gp=_;omega
 have iP:Hid (∀W,Below w.heap.size w W->W.cell? ⟨gp,op+n,none⟩=some (.int .i64 o)):=fun W hW=>((hW.cell (p:=⟨gp,_,none⟩) dY).trans (iG n (by omega))).trans (by simp[dz,<-hn])
 have jD:Hid (IntKind.i64.wrap ((p.length:Int)-1)=(n:Int)/\(n:Int)<(p.length:Int)):=⟨by rw[show (p.length:Int)-1=(n:Int) by omega];exact IntWalk.i64_in _ (by have:=aL.out.2.2.2.2.2.1;omega),by omega⟩;have jK:=hid (show 0<=o/\o<=1000 from ⟨by omega,by omega⟩);obtain⟨_,_,rs,jf,dI,dC,bH,bK⟩:=cZ.out.2;cases jf;obtain⟨gk,ok,_,_,_,jw,_⟩:=Y5 bH bK aF.out.2.2.2.2.2;subst jw;have iU:Hid (Zl X7 (Lt X7.heap.size) (some ⟨gk,ok,none⟩) rs/\ZK Z7 X7 (Lt X7.heap.size) di.kids rs):=⟨bH,bK⟩;obtain⟨l9,dV⟩:∃l9,s' / c=l9:=⟨_,rfl⟩;obtain⟨r9,dx⟩:∃r9,s' % c=r9:=⟨_,rfl⟩;have iF:c*l9+r9=s':=by rw[<-dV,<-dx];exact Nat.div_add_mod s' c
 have dn:r9<c:=by rw[<-dx];exact Nat.mod_lt _ (by omega)
 obtain⟨P9,iM⟩:∃P,c*l9+c=P+1:=⟨c*l9+c-1,by omega⟩;have iq:l9<=256:=by
  have h1:1*l9<=c*l9:=Nat.mul_le_mul_right _ c1;omega
 obtain⟨own,av⟩:∃own,WO c s' columns=own:=⟨_,rfl⟩;obtain⟨c',dJ⟩:∃c':Int,(if columns then (c:Int)+1 else (c:Int))=c':=⟨_,rfl⟩;obtain⟨aA,aJ⟩:∃A9,Zm (Z6 []) c s' columns di.kids=A9:=⟨_,rfl⟩;have bC:Hid (∀k (hk:k<di.kids.length),aA (k+1)=aA k++(di.kids[k]::((if columns=true/\k % c=r9 then [Z6 []] else [])++(if columns=false/\k=P9 then List.replicate c (Z6 []) else [])))):=fun k hk=>by
  rw[<-aJ,Zm,VQ,dV,dx,List.getD_eq_getElem?_getD,List.getElem?_eq_getElem hk];rw[show l9*c+c-1=P9 by rw[Nat.mul_comm l9 c];omega];rfl
 have aV:Hid (∀k,k<=256->(aA k).length<=5000):=fun k hk=>by
  rw[<-aJ];have h1:=zUe (Z6 []) c s' columns di.kids k;have h2:k*(c+2)<=256*18:=Nat.mul_le_mul hk (by omega);omega
 have bY:Hid (aA 0=[]):=by show _=_;rw[<-aJ];rfl
 have dN:Hid ((aA s').length=own):=by
  have h8:=zVb c s' (by omega) columns di.kids (by omega);rw[zSr c s' (by omega)] at h8;have e:(di.kids.take s').length=s':=by simp;omega
  rw[e,zSt (Z6 []) c s' columns di.kids s' s' (QT _)] at h8;show _=_;rw[<-aJ,<-av];exact h8
 have fI:Hid (own<=5000):=by show own<=_;have:=aV.out s' (by omega);have:=dN.out;omega
 obtain⟨LK,ek⟩:∃LK,aA di.kids.length=LK:=⟨_,rfl⟩;have fO:Hid (ZT LK<=20000):=by
  have h1:=zUf c s' columns di.kids di.kids.length (QT _);rw[aJ,ek,List.take_length] at h1;have h2:di.kids.length*(c+1)<=256*17:=Nat.mul_le_mul c3 (by omega);have h3:=XG di;have:=aF.out;show ZT LK<=_;omega
 have dQ:=hid ek;have HR:Hid (aO=XW t p m [⟨2,dr,da,0,[di],0,ZQ,ZQ⟩,⟨1,dr,da,0,[Z9.mk 12 ZQ c' LK],0,ZQ,ZQ⟩] (dr++[da,(own:Int),o]) []):=by
  show aO=_;rw[hR,av,dJ,aJ,ek,au];rfl
 have gD:Hid (c'=(if columns then (c:Int)+1 else (c:Int))/\1<=c'/\c'<=20):=⟨dJ.symm,by rw[<-dJ];split<;>omega,by rw[<-dJ];split<;>omega⟩;have ai:Hid (c*l9+r9=s'/\r9<c/\c*l9+c=P9+1/\l9<=256/\1<=c/\c<=16/\s'<di.kids.length/\di.kids.length<=256):=⟨iF,dn,iM,iq,c1,c2,gU,c3⟩;have iQ:Hid ((s':Int).tdiv (c:Int)=(l9:Int)/\(s':Int).tmod (c:Int)=(r9:Int)):=⟨by rw[<-Int.ofNat_tdiv,dV],by rw[<-Int.ofNat_tmod,dx]⟩;have HCC:=hid fB;clear hR aM fB eD aJ ek av dJ iF dn iM iq c1 c2 gU c3 dV dx gT bI dz au aG hf jk ji jr dE jc jl hn dY iG dI dC bH bK bi iR fJ;have bn:Hid (∀W,Below X7.heap.size X7 W->Z5 W ga (.cells #[.slice Ar dr.length cr,.int .i64 da,.int .i64 (s':Int),.int .i64 di.kind,.string di.text,.int .i64 di.cols,.slice (some ⟨gk,ok,none⟩) di.kids.length ci] 103)):=fun W hW=>ay.out.below hW
 go_upto_region 11 with fail
 generalize hY:World.alloc _ _=Y;obtain⟨iI,au⟩:Below X7.heap.size X7 Y/\Z5 Y X7.heap.size (.cells #[.int .i64 12,.string ZQ,.int .i64 (c:Int),.slice none 0 0] 24):=by rw[<-hY];exact⟨ZX _ _,Z5.at0 _ _⟩
 obtain⟨gl,bL⟩:∃gl,X7.heap.size=gl:=⟨_,rfl⟩;have az:=hid bL;simp only[bL] at au ⊢;have aj:=hid au;have fF:=hid iI;clear hY iI au bL z3 z5 iO
 go_upto_if 50 with fail
 go_cut [51] from 51 to 54 (fun _ wx=>Z5 wx gl (.cells #[.int .i64 12,.string ZQ,.int .i64 c',.slice none 0 0] 24)/\ZZ (fun k=>k=gl) Y wx)
 case first =>
  cases columns
  case false =>
   have e2:c'=(c:Int):=gD.out.1;have gu:=hid e2;clear e2
   go_wp2_with fail
   go_meet;exact⟨by rw[gu.out];exact aj.out,ZZ.of_below (QQ _ _) _⟩
  case true =>
   have e2:c'=(c:Int)+1:=gD.out.1;have y2:Y.cell? ⟨gl,2,none⟩=some (.int .i64 (c:Int)):=aj.out.cell 2;have f2:Y.frozen? ⟨gl,2,none⟩=false:=aj.out.free 2;have v1:IntKind.i64.wrap ((c:Int)+1)=(c:Int)+1:=by have:=ai.out;exact IntWalk.i64_in _ (by omega)
   have gu:=hid e2;clear e2
   go_wp2_with fail
   go_meet;exact⟨by rw[gu.out];exact aj.out.set (i:=2) _,ZZ.set Y ⟨gl,2,none⟩ _⟩
 case rest =>
 obtain⟨au,iw⟩:=hcut;have aj:=hid au;have jN:Hid (Below X7.heap.size X7 wc):=fF.out.trans (iw.below fF.out.size (fun k e=>by rw[e,<-az.out];exact QT _));clear au iw fF;generalize wc=w2 at *;have ax:Hid (∀W,Below X7.heap.size X7 W->∀k,Lt X7.heap.size k->k<W.heap.size):=fun W hW k hk=>QV hk hW.size
 have gF:Hid (∀k,Lt X7.heap.size k->k<gl+1):=fun k hk=>by have h1:k<X7.heap.size:=hk;have:=az.out;omega
 have fT:Hid (∀k,Lt X7.heap.size k->k≠gl):=fun k hk=>by have h1:k<X7.heap.size:=hk;have:=az.out;omega
 go_wp2_with fail
 go_loopw [14,15] (fun ow j wr=>Below X7.heap.size X7 wr/\∃k:Nat,k<=di.kids.length/\j=.int .i64 k/\(∃ov:Nat,ow=.int .i64 ov/\(s'<k->ov=own))/\∃v,Z5 wr gl (.cells #[.int .i64 12,.string ZQ,.int .i64 c',v] 24)/\ZH wr (gl+1) (Lt X7.heap.size) (aA k) v) (fun _ j _=>di.kids.length-(intOf j).toNat)
 case atStart=>exact⟨jN.out,0,QU _,rfl,⟨0,rfl,fun h=>absurd h (Nat.not_lt_zero _)⟩,.slice none 0 0,aj.out,[],by rw[bY.out];exact World.ownsRow_nil _ _ _ _,by rw[bY.out];simp[ZK]⟩
 obtain⟨hb,k,hk,rfl,⟨ov,rfl,dU⟩,v,au,av⟩:=hrel;have aa:=hid hb;have aj:=hid au;have ae:=hid av;have bD:=hid dU;clear hb au av dU;have ay:=hid (ay.out.below aa.out);have z6:wr.cell? ⟨ga,6,none⟩=some (.slice (some ⟨gk,ok,none⟩) di.kids.length ci):=ay.out.cell 6;by_cases fe:k<di.kids.length
 ·have bN:=hid (bC.out k fe);have bW:=hid (aV.out k (by have:=ai.out;omega));obtain⟨g,og,B9,b9,iY,bA,hg,c0,c1,c2,c3,gM,gL,gN,gQ,gP,gV,il⟩:=Y5 iU.out.1 iU.out.2 fe;injection bA with bA
  injection bA with dH dG _
  subst dH dG;have dF:gk<X7.heap.size:=hg;have fP:Hid (∀W,Below X7.heap.size X7 W->W.cell? ⟨gk,ok+k*4,none⟩=some (.int .i64 di.kids[k].kind)/\W.cell? ⟨gk,ok+k*4+1,none⟩=some (.string di.kids[k].text)/\W.cell? ⟨gk,ok+k*4+2,none⟩=some (.int .i64 di.kids[k].cols)/\W.cell? ⟨gk,ok+k*4+3,none⟩=some (.slice B9 di.kids[k].kids.length b9)):=fun W hW=>⟨(hW.cell (p:=⟨gk,_,none⟩) dF).trans c0,(hW.cell (p:=⟨gk,_,none⟩) dF).trans c1,(hW.cell (p:=⟨gk,_,none⟩) dF).trans c2,(hW.cell (p:=⟨gk,_,none⟩) dF).trans c3⟩
  have bQ:Hid (∀W,Below X7.heap.size X7 W->Z7.R W (Lt X7.heap.size) di.kids[k] [.int .i64 di.kids[k].kind,.string di.kids[k].text,.int .i64 di.kids[k].cols,.slice B9 di.kids[k].kids.length b9]):=fun W hW=>YI.2 ⟨_,rfl,gM,gL,gN,by have h9:Z8 Z7 X7 (Lt X7.heap.size) di.kids[k].kids (.slice B9 di.kids[k].kids.length b9):=⟨_,_,iY,rfl,gQ,gP,gV,il⟩;exact h9.keep (fun p hp=>hW.cell hp) (fun _ h=>h)⟩
  have i0:(0:Int)<=(k:Int):=by omega
  have i1:(k:Int)<(di.kids.length:Int):=by omega
  clear gQ gP gV il hg gM gL gN dF c0 c1 c2 c3;generalize di.kids[k]=iZ at *;obtain⟨xk,xt,xc,xs⟩:=iZ;simp only[Z9.kind,Z9.text,Z9.cols,Z9.kids] at fP bQ;have z2:wr.cell? ⟨ga,2,none⟩=some (.int .i64 (s':Int)):=ay.out.cell 2;have y3:wr.cell? ⟨gl,3,none⟩=some v:=aj.out.cell 3;obtain⟨A3,c3,eP⟩:=ae.out.form;subst eP;obtain⟨bk,cK⟩:∃bk,((k:Int)==(s':Int))=bk:=⟨_,rfl⟩
  go_upto_if 66 with fail
  go_cut [14] from 67 to 69 (fun ow wx=>∃ov:Nat,ow=.int .i64 ov/\(s'<k+1->ov=own)/\wx=wr)
  case first =>
   cases bk
   case true =>
    have dX:k=s':=by have h:=(beq_iff_eq (a:=(k:Int)) (b:=(s':Int))).1 cK;omega
    have jI:Hid ((aA k).length=own):=by show _=_;rw[dX];exact dN.out
    clear dX cK
    go_wp2_with fail
    go_meet;exact⟨_,rfl,fun _=>jI.out,rfl⟩
   case false =>
    have dX:¬k=s':=by intro h;rw[h] at cK;simp at cK
    have jG:Hid (s'<k+1->ov=own):=fun h=>bD.out (by omega)
    clear dX cK
    go_wp2_with fail
    go_meet;exact⟨_,rfl,jG.out,rfl⟩
  case rest =>
  obtain⟨eH,rfl,dA,cB⟩:=hcut;have cB:=cB.symm;subst cB;have dO:=hid dA;clear bD dA z2 y3 z6 cK;have bD:=dO;clear dO;generalize jb:Value.slice A3 (aA k).length c3=v at *;clear jb;have ah:Hid (∀W,Below wr.heap.size wr W->Z5 W gl (.cells #[.int .i64 12,.string ZQ,.int .i64 c',v] 24)):=fun W hW=>aj.out.below hW
  have aP:Hid (∀W,Below wr.heap.size wr W->ZH W (gl+1) (Lt X7.heap.size) (aA k) v):=fun W hW=>ae.out.below (ax.out _ aa.out) hW
  have df:Hid ((aA k).length<=100000):=QP bW.out (by decide)
  go_upto_region 19 with fail
  go_cut [79] from 70 to 80 (fun _ wx=>∃v3,Below X7.heap.size X7 wx/\Z5 wx gl (.cells #[.int .i64 12,.string ZQ,.int .i64 c',v3] 24)/\ZH wx (gl+1) (Lt X7.heap.size) (aA k++[Z9.mk xk xt xc xs]) v3)
  case first =>
   have HB:=hid (Below.drew (QQ wr.heap.size wr));refine wp_region_noPanic ?_;refine wp_region_held_drew (S:=fun w'=>Below X7.heap.size X7 w') (by kernel_rfl) (Below.drew aa.out) (fun hHeld=>?_);refine tk 0 70 rfl ?_;refine tk 2 72 rfl ?_;refine tk 3 73 rfl ?_;refine tk 4 74 rfl ?_ (hy:=Or.inl ⟨by rfl,fun W hS=>by have h:W.cell? ⟨ga,6,none⟩=some (.slice (some ⟨gk,ok,none⟩) di.kids.length ci):=(bn.out _ hS).cell 6;clear hS;go_simp;try with_reducible rfl⟩);refine tk 5 75 rfl ?_;refine tk 6 76 rfl ?_;refine tk 7 77 rfl ?_ (hy:=Or.inl ⟨by rfl,fun W hS=>by obtain⟨x0,x1,x2,x3⟩:=fP.out W hS;clear hS;go_simp;try with_reducible rfl⟩);refine rn [1,8] (rc (some 71) rfl (fun K hK=>?_) (rc (some 78) rfl (fun K hK=>?_) AllReadyH.nil));have y3:=(ah.out _ HB.out).cell 3;simp only[List.getElem?_toArray,List.getElem?_cons_zero,List.getElem?_cons_succ] at y3;go_simp;clear y3;refine hK.out _ _ ((aa.out.trans (HB.out.mono aa.out.size))) (fun hHeld=>?_);clear hK K;refine r1 8 (some 78) rfl (fun K hK=>?_);go_simp
   first|refine X6 (fun Xr ag=>?_)|refine X8 (fun Xr ag=>?_)
   have af:=ag.out
   first|have HB:=hid (HB.out.trans (af.1.mono HB.out.size))|have HB:=hid af.1
   have aZ:=hid af.2;clear ag af;refine hK.out _ _ ((aa.out.trans (HB.out.mono aa.out.size))) (fun hHeld=>?_);clear hK K
   try simp only[qP,qN,qS,qZ,qC]
   rotate_left;go_simp
   first|refine X6 (fun Xr ag=>?_)|refine X8 (fun Xr ag=>?_)
   have af:=ag.out
   first|have HB:=hid (HB.out.trans (af.1.mono HB.out.size))|have HB:=hid af.1
   have aZ:=hid af.2;clear ag af;refine hK.out _ _ ((aa.out.trans (HB.out.mono aa.out.size))) (fun hHeld=>?_);clear hK K;refine r1 1 (some 71) rfl (fun K hK=>?_);have y3:=(ah.out _ HB.out).cell 3;simp only[List.getElem?_toArray,List.getElem?_cons_zero,List.getElem?_cons_succ] at y3;go_simp;clear y3;refine hK.out _ _ ((aa.out.trans (HB.out.mono aa.out.size))) (fun hHeld=>?_);clear hK K
   try simp only[qP,qN,qS,qZ,qC]
   rotate_left
   all_goals
    refine r1 9 (some 79) rfl (fun K hK=>?_);refine zWo rfl (.tmp 71) (.tmp 78) (by rfl) gF.out (by rfl) (aP.out _ HB.out) (by rfl) aZ.out ((bQ.out _ (aa.out.trans (HB.out.mono aa.out.size)))) df.out (by have:=(ah.out _ HB.out).lt;omega) ?_;intro v3 w2 aH aR;obtain⟨A9,n9,d9,rfl⟩:=aH.sl;have aC:=hid aH;have aK:=hid ((ah.out _ HB.out).belowB aR (Nat.lt_succ_self _));have aB:=hid ((aa.out.trans (HB.out.mono aa.out.size)).trans (aR.mono (by have:=az.out;omega)));clear aH aR;refine hK.out _ _ (aB.out) (fun hHeld=>?_);clear hK K;refine tk 10 80 rfl ?_;refine r1 11 none rfl (fun K hK=>?_);have y3:=aK.out.cell 3;have f3:=aK.out.free 3;simp only[List.getElem?_toArray,List.getElem?_cons_zero,List.getElem?_cons_succ] at y3;go_simp;generalize hW:World.setCell _ _ _=W3;have aQ:ZZ (fun k=>k=gl) w2 W3:=by rw[<-hW];exact ZZ.set _ ⟨gl,3,none⟩ _
    have aU:Hid (Z5 W3 gl (.cells #[.int .i64 12,.string ZQ,.int .i64 c',.slice A9 n9 d9] 24)):=by show Z5 _ _ _;rw[<-hW];exact aK.out.set (i:=3) _
    have bB:=hid (aB.out.trans (aQ.below aB.out.size (fun k e=>by rw[e,<-az.out];exact QT _)));have aT:=hid (aC.out.kept aQ (Nat.lt_succ_self _) (fun k hk=>⟨ax.out _ aB.out k hk,fT.out k hk⟩));clear hW aQ y3 f3;refine hK.out _ _ (bB.out) (fun hHeld=>?_);clear hK K
    try simp only[qP,qN,qS,qZ,qC]
    refine wpAnyH_done (by kernel_rfl) ?_ _;refine NoPanic.normal ?_
   all_goals
    go_wp2_with fail
    go_meet;exact⟨_,bB.out,aU.out,aT.out⟩
  case rest =>
  clear ah aP df aa aj ae fP bQ i0 i1;obtain⟨v,hx,au,how⟩:=hcut;have aa:=hid hx;have aj:=hid au;have ae:=hid how;clear hx au how;generalize wc=dm at *;obtain⟨kc,dE⟩:∃kc,k % c=kc:=⟨_,rfl⟩;rw[dE] at bN;have z2:dm.cell? ⟨ga,2,none⟩=some (.int .i64 (s':Int)):=(bn.out _ aa.out).cell 2;have q1:((c:Int)==0)=false:=by have:=ai.out;rw[beq_eq_false_iff_ne];omega
  have q2:¬(c:Int)=0:=by have:=ai.out;omega
  have t8:(s':Int).tmod (c:Int)=(r9:Int):=iQ.out.2;have t9:(k:Int).tmod (c:Int)=(kc:Int):=by rw[<-Int.ofNat_tmod,dE]
  have w8:IntKind.i64.wrap (r9:Int)=(r9:Int):=by have:=ai.out;exact IntWalk.i64_in _ (by omega)
  have w9:IntKind.i64.wrap (kc:Int)=(kc:Int):=by have:=ai.out;have h2:=Nat.mod_lt k (show 0<c by omega);exact IntWalk.i64_in _ (by omega)
  clear dE;obtain⟨aW,bg⟩:∃aW,aA k++[Z9.mk xk xt xc xs]++(if columns=true/\kc=r9 then [Z6 []] else [])=aW:=⟨_,rfl⟩;have bP:=hid bg;have jF:Hid (aW.length<=6000):=by show _<=_;rw[<-bg];have:=bW.out;split<;>simp<;>omega
  have jP:Hid (aA (k+1)=aW++(if columns=false/\k=P9 then List.replicate c (Z6 []) else [])):=by show _=_;rw[bN.out,<-bg];simp
  clear bg bN
  go_upto_region 20 with fail
  go_cut [91] (fun sl wx=>∃bq,sl=.bool bq/\(bq=true↔(columns=true/\kc=r9))/\∃n,wx=dm.drewN n)
  case first =>
   cases columns
   case false =>
    go_quiet (fail)
    go_wp2_with fail
    go_meet;exact⟨false,rfl,by simp,_,rfl⟩
   case true =>
    by_cases dD:kc=r9
    ·have e9:((kc:Int)==(r9:Int))=true:=by rw[dD];simp
     have HM:=hid dD;clear dD
     go_quiet (fail)
     go_wp2_with fail
     go_meet;exact⟨true,rfl,by have:=HM.out;simp[this],_,rfl⟩
    have e9:((kc:Int)==(r9:Int))=false:=by rw[beq_eq_false_iff_ne];omega
    have HM:=hid dD;clear dD
    go_quiet (fail)
    go_wp2_with fail
    go_meet;exact⟨false,rfl,by have:=HM.out;simp[this],_,rfl⟩
  case rest =>
  obtain⟨bq,rfl,aD,eO,cB⟩:=hcut;have gG:=hid aD;have aS:=hid (ae.out.below (ax.out _ aa.out) (Tw (QQ dm.heap.size dm) eO));have aB:=hid (Tw aa.out eO);have bR:Hid (Z5 (dm.drewN eO) gl (.cells #[.int .i64 12,.string ZQ,.int .i64 c',v] 24)):=hid aj.out;rw[<-cB] at aS aB bR;clear aD z2 q1 q2 t8 t9 w8 w9 ae aa aj cB;generalize wc=cu at *;have ae:=aS;have aa:=aB;have aj:=bR;clear aS aB bR
  go_upto_if 91 with fail
  go_cut [96] from 92 to 97 (fun _ wx=>∃v3,Below X7.heap.size X7 wx/\Z5 wx gl (.cells #[.int .i64 12,.string ZQ,.int .i64 c',v3] 24)/\ZH wx (gl+1) (Lt X7.heap.size) aW v3)
  case first =>
   cases bq
   case false =>
    have bP:Hid (aA k++[Z9.mk xk xt xc xs]=aW):=by show _=_;have h:=bP.out;have h2:=gG.out;rw[if_neg (fun h3=>by simpa using h2.2 h3)] at h;simpa using h
    go_wp2_with fail
    go_meet;exact⟨v,aa.out,aj.out,by rw[<-bP.out];exact ae.out⟩
   case true =>
    have bP:Hid (aA k++[Z9.mk xk xt xc xs]++[Z6 []]=aW):=by show _=_;have h:=bP.out;rw[if_pos (gG.out.1 rfl)] at h;exact h
    have ah:Hid (∀W,Below cu.heap.size cu W->Z5 W gl (.cells #[.int .i64 12,.string ZQ,.int .i64 c',v] 24)):=fun W hW=>aj.out.below hW
    have aP:Hid (∀W,Below cu.heap.size cu W->ZH W (gl+1) (Lt X7.heap.size) (aA k++[Z9.mk xk xt xc xs]) v):=fun W hW=>ae.out.below (ax.out _ aa.out) hW
    have df:Hid ((aA k++[Z9.mk xk xt xc xs]).length<=100000):=by have:=bW.out;show _<=_;simp;omega
    go_upto_region 21 with fail
    have HB:=hid (Below.drew (QQ cu.heap.size cu));refine wp_region_noPanic ?_;refine wp_region_held_drew (S:=fun w'=>Below X7.heap.size X7 w') (by kernel_rfl) (Below.drew aa.out) (fun hHeld=>?_);refine tk 0 92 rfl ?_;refine rn [1,2] (rc (some 93) rfl (fun K hK=>?_) (rc (some 94) rfl (fun K hK=>?_) AllReadyH.nil));have y3:=(ah.out _ HB.out).cell 3;simp only[List.getElem?_toArray,List.getElem?_cons_zero,List.getElem?_cons_succ] at y3;go_simp;clear y3;refine hK.out _ _ ((aa.out.trans (HB.out.mono aa.out.size))) (fun hHeld=>?_);clear hK K;refine r1 2 (some 94) rfl (fun K hK=>?_);go_simp;refine Calls.mono (UU _ none 0 0) ?_;rintro e wq ⟨rfl,aD⟩;have HB:=hid (HB.out.trans (aD.mono HB.out.size));clear aD;refine hK.out _ _ ((aa.out.trans (HB.out.mono aa.out.size))) (fun hHeld=>?_);clear hK K;refine r1 3 (some 95) rfl (fun K hK=>?_);go_simp
    first|refine X6 (fun Xr ag=>?_)|refine X8 (fun Xr ag=>?_)
    have af:=ag.out
    first|have HB:=hid (HB.out.trans (af.1.mono HB.out.size))|have HB:=hid af.1
    have aZ:=hid af.2;clear ag af;refine hK.out _ _ ((aa.out.trans (HB.out.mono aa.out.size))) (fun hHeld=>?_);clear hK K
    try simp only[qP,qN,qS,qZ,qC]
    rotate_left;go_simp;refine Calls.mono (UU _ none 0 0) ?_;rintro e wq ⟨rfl,aD⟩;have HB:=hid (HB.out.trans (aD.mono HB.out.size));clear aD;refine hK.out _ _ ((aa.out.trans (HB.out.mono aa.out.size))) (fun hHeld=>?_);clear hK K;refine rn [1,3] (rc (some 93) rfl (fun K hK=>?_) (rc (some 95) rfl (fun K hK=>?_) AllReadyH.nil));have y3:=(ah.out _ HB.out).cell 3;simp only[List.getElem?_toArray,List.getElem?_cons_zero,List.getElem?_cons_succ] at y3;go_simp;clear y3;refine hK.out _ _ ((aa.out.trans (HB.out.mono aa.out.size))) (fun hHeld=>?_);clear hK K;refine r1 3 (some 95) rfl (fun K hK=>?_);go_simp
    first|refine X6 (fun Xr ag=>?_)|refine X8 (fun Xr ag=>?_)
    have af:=ag.out
    first|have HB:=hid (HB.out.trans (af.1.mono HB.out.size))|have HB:=hid af.1
    have aZ:=hid af.2;clear ag af;refine hK.out _ _ ((aa.out.trans (HB.out.mono aa.out.size))) (fun hHeld=>?_);clear hK K
    try simp only[qP,qN,qS,qZ,qC]
    rotate_left;go_simp
    first|refine X6 (fun Xr ag=>?_)|refine X8 (fun Xr ag=>?_)
    have af:=ag.out
    first|have HB:=hid (HB.out.trans (af.1.mono HB.out.size))|have HB:=hid af.1
    have aZ:=hid af.2;clear ag af;refine hK.out _ _ ((aa.out.trans (HB.out.mono aa.out.size))) (fun hHeld=>?_);clear hK K;refine r1 1 (some 93) rfl (fun K hK=>?_);have y3:=(ah.out _ HB.out).cell 3;simp only[List.getElem?_toArray,List.getElem?_cons_zero,List.getElem?_cons_succ] at y3;go_simp;clear y3;refine hK.out _ _ ((aa.out.trans (HB.out.mono aa.out.size))) (fun hHeld=>?_);clear hK K
    try simp only[qP,qN,qS,qZ,qC]
    rotate_left
    all_goals
     refine r1 4 (some 96) rfl (fun K hK=>?_);refine zWo rfl (.tmp 93) (.tmp 95) (by rfl) gF.out (by rfl) (aP.out _ HB.out) (by rfl) aZ.out (show Z7.R _ _ (Z6 []) [.int .i64 1,.string ⟨#[]⟩,.int .i64 0,.slice none 0 0] from YI.2 ⟨.slice none 0 0,rfl,by simp[Z4,Z6,Z9.kind],by simp[Z4,Z6,Z9.cols],QU _,Z8.nil_ 0 (QU _) none⟩) df.out (by have:=(ah.out _ HB.out).lt;omega) ?_;intro v3 w2 aH aR;obtain⟨A9,n9,d9,rfl⟩:=aH.sl;have aC:=hid aH;have aK:=hid ((ah.out _ HB.out).belowB aR (Nat.lt_succ_self _));have aB:=hid ((aa.out.trans (HB.out.mono aa.out.size)).trans (aR.mono (by have:=az.out;omega)));clear aH aR;refine hK.out _ _ (aB.out) (fun hHeld=>?_);clear hK K;refine tk 5 97 rfl ?_;refine r1 6 none rfl (fun K hK=>?_);have y3:=aK.out.cell 3;have f3:=aK.out.free 3;simp only[List.getElem?_toArray,List.getElem?_cons_zero,List.getElem?_cons_succ] at y3;go_simp;generalize hW:World.setCell _ _ _=W3;have aQ:ZZ (fun k=>k=gl) w2 W3:=by rw[<-hW];exact ZZ.set _ ⟨gl,3,none⟩ _
     have aU:Hid (Z5 W3 gl (.cells #[.int .i64 12,.string ZQ,.int .i64 c',.slice A9 n9 d9] 24)):=by show Z5 _ _ _;rw[<-hW];exact aK.out.set (i:=3) _
     have bB:=hid (aB.out.trans (aQ.below aB.out.size (fun k e=>by rw[e,<-az.out];exact QT _)));have aT:=hid (aC.out.kept aQ (Nat.lt_succ_self _) (fun k hk=>⟨ax.out _ aB.out k hk,fT.out k hk⟩));clear hW aQ y3 f3;refine hK.out _ _ (bB.out) (fun hHeld=>?_);clear hK K
     try simp only[qP,qN,qS,qZ,qC]
     refine wpAnyH_done (by kernel_rfl) ?_ _;refine NoPanic.normal ?_
    all_goals
     go_wp2_with fail
     go_meet;exact⟨_,bB.out,aU.out,by rw[<-bP.out];exact aT.out⟩
  case rest =>
  clear bP aa aj ae gG v;obtain⟨v,hx,au,how⟩:=hcut;have aa:=hid hx;have aj:=hid au;have ae:=hid how;clear hx au how;generalize wc=w21 at *
  go_upto_region 23 with fail
  go_loopw [16] (fun jj wr=>Below X7.heap.size X7 wr/\∃j:Nat,j<=(if columns=false/\k=P9 then c else 0)/\jj=.int .i64 j/\∃v,Z5 wr gl (.cells #[.int .i64 12,.string ZQ,.int .i64 c',v] 24)/\ZH wr (gl+1) (Lt X7.heap.size) (aW++List.replicate j (Z6 [])) v) (fun jj _=>c-(intOf jj).toNat)
  case atStart=>exact⟨aa.out,0,QU _,rfl,v,aj.out,by simpa using ae.out⟩
  obtain⟨hb,j,hj,rfl,v2,au,av⟩:=hrel;have aa:=hid hb;have aj:=hid au;have ae:=hid av;clear hb au av;have z2:wr.cell? ⟨ga,2,none⟩=some (.int .i64 (s':Int)):=(bn.out _ aa.out).cell 2;have q1:((c:Int)==0)=false:=by have:=ai.out;rw[beq_eq_false_iff_ne];omega
  have q2:¬(c:Int)=0:=by have:=ai.out;omega
  have t8:(s':Int).tdiv (c:Int)=(l9:Int):=iQ.out.1;have w8:IntKind.i64.wrap (l9:Int)=(l9:Int):=by have:=ai.out;exact IntWalk.i64_in _ (by omega)
  obtain⟨M9,iN⟩:∃M9,c*l9=M9:=⟨_,rfl⟩;have v1:IntKind.i64.wrap ((l9:Int)*(c:Int))=(M9:Int):=by
   have e:(l9:Int)*(c:Int)=(M9:Int):=by rw[<-iN];push_cast;rw[Int.mul_comm]
   rw[e];have:=ai.out;exact IntWalk.i64_in _ (by omega)
  have v3:IntKind.i64.wrap ((M9:Int)+(c:Int))=(P9:Int)+1:=by have:=ai.out;rw[show (M9:Int)+(c:Int)=(P9:Int)+1 by omega];exact IntWalk.i64_in _ (by omega)
  have v4:IntKind.i64.wrap (P9:Int)=(P9:Int):=by have:=ai.out;exact IntWalk.i64_in _ (by omega)
  clear iN;by_cases bA:columns=false/\k=P9/\j<c
  ·obtain⟨rfl,fo,iA⟩:=bA;have e1:decide ((j:Int)<(c:Int))=true:=by rw[decide_eq_true_eq];omega
   have jy:decide (j<c)=true:=by rw[decide_eq_true_eq];omega
   have e9:((k:Int)==(P9:Int))=true:=by rw[fo];simp
   have iH:j+1<=(if (false:Bool)=false/\k=P9 then c else 0):=by rw[if_pos ⟨rfl,fo⟩];omega
   have fQ:=hid iA;have gB:=hid iH;clear hj fo iH iA
   go_upto_region 25 with fail
   clear z2 q1 q2 t8 w8 v1 v3 v4 e1 jy e9;generalize ja:wr=bZ at *;clear ja;generalize v2=v at *;have ah:Hid (∀W,Below bZ.heap.size bZ W->Z5 W gl (.cells #[.int .i64 12,.string ZQ,.int .i64 c',v] 24)):=fun W hW=>aj.out.below hW
   have aP:Hid (∀W,Below bZ.heap.size bZ W->ZH W (gl+1) (Lt X7.heap.size) (aW++List.replicate j (Z6 [])) v):=fun W hW=>ae.out.below (ax.out _ aa.out) hW
   have df:Hid ((aW++List.replicate j (Z6 [])).length<=100000):=by have:=jF.out;have:=ai.out;have:=fQ.out;show _<=_;simp;omega
   have v9:IntKind.i64.wrap ((j:Int)+1)=(j:Int)+1:=by have:=ai.out;have:=fQ.out;exact IntWalk.i64_in _ (by omega)
   have HB:=hid (Below.drew (QQ bZ.heap.size bZ));refine wp_region_noPanic ?_;refine wp_region_held_drew (S:=fun w'=>Below X7.heap.size X7 w') (by kernel_rfl) (Below.drew aa.out) (fun hHeld=>?_);refine tk 0 120 rfl ?_;refine rn [1,2] (rc (some 121) rfl (fun K hK=>?_) (rc (some 122) rfl (fun K hK=>?_) AllReadyH.nil));have y3:=(ah.out _ HB.out).cell 3;simp only[List.getElem?_toArray,List.getElem?_cons_zero,List.getElem?_cons_succ] at y3;go_simp;clear y3;refine hK.out _ _ ((aa.out.trans (HB.out.mono aa.out.size))) (fun hHeld=>?_);clear hK K;refine r1 2 (some 122) rfl (fun K hK=>?_);go_simp;refine Calls.mono (UU _ none 0 0) ?_;rintro e wq ⟨rfl,aD⟩;have HB:=hid (HB.out.trans (aD.mono HB.out.size));clear aD;refine hK.out _ _ ((aa.out.trans (HB.out.mono aa.out.size))) (fun hHeld=>?_);clear hK K;refine r1 3 (some 123) rfl (fun K hK=>?_);go_simp
   first|refine X6 (fun Xr ag=>?_)|refine X8 (fun Xr ag=>?_)
   have af:=ag.out
   first|have HB:=hid (HB.out.trans (af.1.mono HB.out.size))|have HB:=hid af.1
   have aZ:=hid af.2;clear ag af;refine hK.out _ _ ((aa.out.trans (HB.out.mono aa.out.size))) (fun hHeld=>?_);clear hK K
   try simp only[qP,qN,qS,qZ,qC]
   rotate_left;go_simp;refine Calls.mono (UU _ none 0 0) ?_;rintro e wq ⟨rfl,aD⟩;have HB:=hid (HB.out.trans (aD.mono HB.out.size));clear aD;refine hK.out _ _ ((aa.out.trans (HB.out.mono aa.out.size))) (fun hHeld=>?_);clear hK K;refine rn [1,3] (rc (some 121) rfl (fun K hK=>?_) (rc (some 123) rfl (fun K hK=>?_) AllReadyH.nil));have y3:=(ah.out _ HB.out).cell 3;simp only[List.getElem?_toArray,List.getElem?_cons_zero,List.getElem?_cons_succ] at y3;go_simp;clear y3;refine hK.out _ _ ((aa.out.trans (HB.out.mono aa.out.size))) (fun hHeld=>?_);clear hK K;refine r1 3 (some 123) rfl (fun K hK=>?_);go_simp
   first|refine X6 (fun Xr ag=>?_)|refine X8 (fun Xr ag=>?_)
   have af:=ag.out
   first|have HB:=hid (HB.out.trans (af.1.mono HB.out.size))|have HB:=hid af.1
   have aZ:=hid af.2;clear ag af;refine hK.out _ _ ((aa.out.trans (HB.out.mono aa.out.size))) (fun hHeld=>?_);clear hK K
   try simp only[qP,qN,qS,qZ,qC]
   rotate_left;go_simp
   first|refine X6 (fun Xr ag=>?_)|refine X8 (fun Xr ag=>?_)
   have af:=ag.out
   first|have HB:=hid (HB.out.trans (af.1.mono HB.out.size))|have HB:=hid af.1
   have aZ:=hid af.2;clear ag af;refine hK.out _ _ ((aa.out.trans (HB.out.mono aa.out.size))) (fun hHeld=>?_);clear hK K;refine r1 1 (some 121) rfl (fun K hK=>?_);have y3:=(ah.out _ HB.out).cell 3;simp only[List.getElem?_toArray,List.getElem?_cons_zero,List.getElem?_cons_succ] at y3;go_simp;clear y3;refine hK.out _ _ ((aa.out.trans (HB.out.mono aa.out.size))) (fun hHeld=>?_);clear hK K
   try simp only[qP,qN,qS,qZ,qC]
   rotate_left
   all_goals
    refine r1 4 (some 124) rfl (fun K hK=>?_);refine zWo rfl (.tmp 121) (.tmp 123) (by rfl) gF.out (by rfl) (aP.out _ HB.out) (by rfl) aZ.out (show Z7.R _ _ (Z6 []) [.int .i64 1,.string ⟨#[]⟩,.int .i64 0,.slice none 0 0] from YI.2 ⟨.slice none 0 0,rfl,by simp[Z4,Z6,Z9.kind],by simp[Z4,Z6,Z9.cols],QU _,Z8.nil_ 0 (QU _) none⟩) df.out (by have:=(ah.out _ HB.out).lt;omega) ?_;intro v3 w2 aH aR;obtain⟨A9,n9,d9,rfl⟩:=aH.sl;have aC:=hid aH;have aK:=hid ((ah.out _ HB.out).belowB aR (Nat.lt_succ_self _));have aB:=hid ((aa.out.trans (HB.out.mono aa.out.size)).trans (aR.mono (by have:=az.out;omega)));clear aH aR;refine hK.out _ _ (aB.out) (fun hHeld=>?_);clear hK K;refine tk 5 125 rfl ?_;refine r1 6 none rfl (fun K hK=>?_);have y3:=aK.out.cell 3;have f3:=aK.out.free 3;simp only[List.getElem?_toArray,List.getElem?_cons_zero,List.getElem?_cons_succ] at y3;go_simp;generalize hW:World.setCell _ _ _=W3;have aQ:ZZ (fun k=>k=gl) w2 W3:=by rw[<-hW];exact ZZ.set _ ⟨gl,3,none⟩ _
    have aU:Hid (Z5 W3 gl (.cells #[.int .i64 12,.string ZQ,.int .i64 c',.slice A9 n9 d9] 24)):=by show Z5 _ _ _;rw[<-hW];exact aK.out.set (i:=3) _
    have bB:=hid (aB.out.trans (aQ.below aB.out.size (fun k e=>by rw[e,<-az.out];exact QT _)));have aT:=hid (aC.out.kept aQ (Nat.lt_succ_self _) (fun k hk=>⟨ax.out _ aB.out k hk,fT.out k hk⟩));clear hW aQ y3 f3;refine hK.out _ _ (bB.out) (fun hHeld=>?_);clear hK K
    try simp only[qP,qN,qS,qZ,qC]
    refine wpAnyH_done (by kernel_rfl) ?_ _;refine NoPanic.normal ?_
   all_goals
    go_wp2_with fail
    go_roundw
    case rel=>exact⟨bB.out,j+1,by simpa using gB.out,by go_num,_,aU.out,by rw[List.replicate_succ',<-List.append_assoc];exact aT.out⟩
    case measure=>have:=fQ.out;simp[intOf];omega
  have bU:Hid (ZH wr (gl+1) (Lt X7.heap.size) (aA (k+1)) v2):=by
   show ZH _ _ _ _ _;rw[jP.out];have h9:=ae.out;by_cases h8:columns=false/\k=P9
   ·rw[if_pos h8] at hj ⊢;have e:j=c:=by
     rcases Nat.lt_or_ge j c with h|h
     ·exact absurd ⟨h8.1,h8.2,h⟩ bA
     omega
    rw[e] at h9;exact h9
   rw[if_neg h8] at hj ⊢;have e:j=0:=by omega
   rw[e] at h9;simpa using h9
  have cO:=hid (show k+1<=di.kids.length from by omega);have v9:IntKind.i64.wrap ((k:Int)+1)=(k:Int)+1:=by have:=ai.out;exact IntWalk.i64_in _ (by omega)
  obtain⟨e1,fw⟩:∃e1,decide ((j:Int)<(c:Int))=e1:=⟨_,rfl⟩;obtain⟨e3,jq⟩:∃e3,((k:Int)==(P9:Int))=e3:=⟨_,rfl⟩;have dL:e1=true->columns=false->e3=false:=fun h1 h2=>by
   rw[<-fw,decide_eq_true_eq] at h1;cases e3
   ·rfl
   have h4:k=P9:=by have h:=(beq_iff_eq (a:=(k:Int)) (b:=(P9:Int))).1 jq;omega
   exact absurd ⟨h2,h4,by omega⟩ bA
  have gI:=hid dL;clear dL bA hj;cases e1
  case false =>
   have fu:decide (j<c)=false:=by rw[decide_eq_false_iff_not] at fw ⊢;omega
   cases columns
   all_goals
    go_wp2_with fail
    go_roundw
    case rel=>exact⟨aa.out,k+1,cO.out,by go_num,⟨eH,rfl,bD.out⟩,v2,aj.out,bU.out⟩
    case measure=>have:=cO.out;simp[intOf];omega
  case true =>
   have fu:decide (j<c)=true:=by rw[decide_eq_true_eq] at fw ⊢;omega
   cases columns
   case true =>
    go_wp2_with fail
    go_roundw
    case rel=>exact⟨aa.out,k+1,cO.out,by go_num,⟨eH,rfl,bD.out⟩,v2,aj.out,bU.out⟩
    case measure=>have:=cO.out;simp[intOf];omega
   case false =>
    have jm:=gI.out rfl rfl;subst jm
    go_wp2_with fail
    go_roundw
    case rel=>exact⟨aa.out,k+1,cO.out,by go_num,⟨eH,rfl,bD.out⟩,v2,aj.out,bU.out⟩
    case measure=>have:=cO.out;simp[intOf];omega
 have iy:k=di.kids.length:=by omega
 have dU:ov=own:=bD.out (by have:=ai.out;omega);subst dU;have i1:¬(k:Int)<(di.kids.length:Int):=by omega
 have ae:Hid (ZH wr (gl+1) (Lt X7.heap.size) LK v):=by show ZH _ _ _ _ _;rw[<-dQ.out,<-iy];exact ae.out
 obtain⟨A3,c3,eP⟩:=ae.out.form;subst eP;generalize wr=w5 at *;obtain⟨z0,z1,z2,z3,z4,z5,_⟩:=(⟨ay.out.cell 0,ay.out.cell 1,ay.out.cell 2,ay.out.cell 3,ay.out.cell 4,ay.out.cell 5,trivial⟩:w5.cell? ⟨ga,0,none⟩=some (.slice Ar dr.length cr)/\w5.cell? ⟨ga,1,none⟩=some (.int .i64 da)/\w5.cell? ⟨ga,2,none⟩=some (.int .i64 (s':Int))/\w5.cell? ⟨ga,3,none⟩=some (.int .i64 di.kind)/\w5.cell? ⟨ga,4,none⟩=some (.string di.text)/\w5.cell? ⟨ga,5,none⟩=some (.int .i64 di.cols)/\True);have y0:w5.cell? ⟨gl,0,none⟩=some (.int .i64 12):=aj.out.cell 0;have y1:w5.cell? ⟨gl,1,none⟩=some (.string ZQ):=aj.out.cell 1;have y2:w5.cell? ⟨gl,2,none⟩=some (.int .i64 c'):=aj.out.cell 2;have y3:w5.cell? ⟨gl,3,none⟩=some (.slice A3 LK.length c3):=aj.out.cell 3;clear iy fe hk bD dQ bC aV bY;have q0:(w5.alloc (.cells #[.int .i64 di.kind,.string di.text,.int .i64 di.cols,.slice (some ⟨gk,ok,none⟩) di.kids.length ci] 24)).cell? ⟨ga,0,none⟩=some (.slice Ar dr.length cr):=(ay.out.al _).cell 0;have q1:(w5.alloc (.cells #[.int .i64 di.kind,.string di.text,.int .i64 di.cols,.slice (some ⟨gk,ok,none⟩) di.kids.length ci] 24)).cell? ⟨ga,1,none⟩=some (.int .i64 da):=(ay.out.al _).cell 1;have p0:(w5.alloc (.cells #[.int .i64 di.kind,.string di.text,.int .i64 di.cols,.slice (some ⟨gk,ok,none⟩) di.kids.length ci] 24)).cell? ⟨gl,0,none⟩=some (.int .i64 12):=(aj.out.al _).cell 0;have p1:(w5.alloc (.cells #[.int .i64 di.kind,.string di.text,.int .i64 di.cols,.slice (some ⟨gk,ok,none⟩) di.kids.length ci] 24)).cell? ⟨gl,1,none⟩=some (.string ZQ):=(aj.out.al _).cell 1
 have p2:(w5.alloc (.cells #[.int .i64 di.kind,.string di.text,.int .i64 di.cols,.slice (some ⟨gk,ok,none⟩) di.kids.length ci] 24)).cell? ⟨gl,2,none⟩=some (.int .i64 c'):=(aj.out.al _).cell 2;have p3:(w5.alloc (.cells #[.int .i64 di.kind,.string di.text,.int .i64 di.cols,.slice (some ⟨gk,ok,none⟩) di.kids.length ci] 24)).cell? ⟨gl,3,none⟩=some (.slice A3 LK.length c3):=(aj.out.al _).cell 3
 go_upto_region 27 with fail
 clear z0 z1 z2 z3 z4 z5 z6 y0 y1 y2 y3 i1 q0 q1 p0 p1 p2 p3;generalize hV:World.alloc (World.alloc (World.alloc w5 _) _) _=V;obtain⟨fC,dH,dG,fq⟩:Below w5.heap.size w5 V/\Z5 V w5.heap.size (.cells #[.int .i64 di.kind,.string di.text,.int .i64 di.cols,.slice (some ⟨gk,ok,none⟩) di.kids.length ci] 24)/\Z5 V (w5.heap.size+1) (.cells #[.int .i64 12,.string ZQ,.int .i64 c',.slice A3 LK.length c3] 24)/\Z5 V (w5.heap.size+1+1) (.cells #[.int .i64 2,.slice Ar dr.length cr,.int .i64 da,.int .i64 0,.slice (some ⟨w5.heap.size,0,none⟩) 1 1,.int .i64 0,.string ZQ,.string ZQ,.int .i64 1,.slice Ar dr.length cr,.int .i64 da,.int .i64 0,.slice (some ⟨w5.heap.size+1,0,none⟩) 1 1,.int .i64 0,.string ZQ,.string ZQ] 49):=by
  rw[<-hV];exact⟨Zq (Zq (ZX _ _) _) _,((Z5.at0 _ _).al _).al _,(Z5.at1 _ _ _).al _,Z5.at2 _ _ _ _⟩
 obtain⟨g1,gW⟩:∃g1,w5.heap.size=g1:=⟨_,rfl⟩;simp only[gW] at dH dG fq ⊢;have aX:=hid (aa.out.trans (fC.mono aa.out.size));have ae:=hid (ae.out.below (ax.out _ aa.out) fC);have fZ:=hid dH;have aK:=hid dG;have fV:=hid fq;clear hV fC dH dG fq gW aa;have aY:=hid (aY.out.below aX.out);have aC:=hid (aC.out.below aX.out);have HG:=hid (HG.out.below aX.out);have ay:=hid (bn.out _ aX.out);have gy:=hid (cZ.out.1.below aX.out aX.out.size);have jM:=hid (cZ.out.2.below aX.out aX.out.size);have ak:=hid (ak.out.trans (aX.out.mono ak.out.size));have KP:Hid (∀W,ZZ (fun k=>k=w.heap.size+1+1) V W->W.cell? ⟨gp,op+n,none⟩=some (.int .i64 o)):=fun W hW=>(hW.cell (p:=⟨gp,op+n,none⟩) (Va (iP.out V ak.out)) jJ.out).trans (iP.out V ak.out)
 obtain⟨LT,ed⟩:∃LT,Z9.mk 12 ZQ c' LK=LT:=⟨_,rfl⟩;rw[ed] at HR;have bz:Z8 Z7 V (Lt V.heap.size) [di] (.slice (some ⟨g1,0,none⟩) 1 1):=TG (E:=Z7) (cs:=[.int .i64 di.kind,.string di.text,.int .i64 di.cols,.slice (some ⟨gk,ok,none⟩) di.kids.length ci]) fZ.out (YI.2 ⟨_,rfl,aF.out.1.1,aF.out.1.2.1,aF.out.1.2.2,jM.out⟩) fZ.out.lt;have bu:Z8 Z7 V (Lt V.heap.size) [LT] (.slice (some ⟨g1+1,0,none⟩) 1 1):=by
  rw[<-ed];exact TG (E:=Z7) (cs:=[.int .i64 12,.string ZQ,.int .i64 c',.slice A3 LK.length c3]) aK.out (YI.2 ⟨_,rfl,by simp[Z4,Z9.kind],YS (by have:=gD.out;simp only[Z9.cols];omega),QU _,ae.out.rows (ax.out _ aX.out)⟩) aK.out.lt
 have dZ:Z4 da:=YS (by have:=aF.out;omega);have dP:Hid (Z8 Zb V (Lt V.heap.size) [⟨2,dr,da,0,[di],0,ZQ,ZQ⟩,⟨1,dr,da,0,[LT],0,ZQ,ZQ⟩] (.slice (some ⟨g1+1+1,0,none⟩) 2 2)):=zWs (E:=Zb) (c1:=[.int .i64 2,.slice Ar dr.length cr,.int .i64 da,.int .i64 0,.slice (some ⟨g1,0,none⟩) 1 1,.int .i64 0,.string ZQ,.string ZQ]) (c2:=[.int .i64 1,.slice Ar dr.length cr,.int .i64 da,.int .i64 0,.slice (some ⟨g1+1,0,none⟩) 1 1,.int .i64 0,.string ZQ,.string ZQ]) fV.out
  ⟨_,_,rfl,by simp[Z4],dZ,by simp[Z4],by simp[Z4],QU _,QU _,gy.out,bz⟩ ⟨_,_,rfl,by simp[Z4],dZ,by simp[Z4],by simp[Z4],QU _,QU _,gy.out,bu⟩ fV.out.lt
 have iV:Hid (∀x∈([⟨2,dr,da,0,[di],0,ZQ,ZQ⟩,⟨1,dr,da,0,[LT],0,ZQ,ZQ⟩]:List ZB),ZT x.nodes<=100000):=fun x hx=>by
  simp only[List.mem_cons,List.not_mem_nil,or_false] at hx;rcases hx with rfl|rfl
  ·have:=aF.out;show ZW di+0<=_;omega
  show ZT [LT]<=_;rw[<-ed];have:=fO.out;simp only[ZT,ZW];omega
 obtain⟨eu,bM⟩:∃eu,([⟨2,dr,da,0,[di],0,ZQ,ZQ⟩,⟨1,dr,da,0,[LT],0,ZQ,ZQ⟩]:List ZB)=eu:=⟨_,rfl⟩;have bJ:eu.length=2:=by rw[<-bM];rfl
 rw[bM] at HR dP iV;obtain⟨pos,aG⟩:∃pos,dr++[da,(ov:Int),o]=pos:=⟨_,rfl⟩;rw[aG] at HR;have jO:Hid (∀W g,Z5 W g (.cells #[.int .i64 da,.int .i64 (ov:Int),.int .i64 o] 3)->Below V.heap.size V W->Calls Tryz.prog 72 #[.slice Ar dr.length cr,.slice (some ⟨g,0,none⟩) 3 3] W (WZ W pos)):=fun W g ho hW=>by
  have je:Z0 W (Lt W.heap.size) [da,(ov:Int),o] (.slice (some ⟨g,0,none⟩) 3 3):=zWa (E:=ZF) (c1:=[.int .i64 da]) (c2:=[.int .i64 (ov:Int)]) (c3:=[.int .i64 o]) ho ⟨rfl,dZ⟩ ⟨rfl,YS (by have:=fI.out;omega)⟩ ⟨rfl,YS (by have:=jK.out;omega)⟩ ho.lt;rw[<-aG];exact(zLb dr [da,(ov:Int),o] Ar (some ⟨g,0,none⟩) cr 3 W (gy.out.below hW hW.size) je (by have:=aF.out;simp;omega)).mono fun e w' h=>Wl.ints h
 have jL:Hid (∀W Aq cq,Below V.heap.size V W->Z0 W (Lt W.heap.size) pos (.slice Aq pos.length cq)->Calls Tryz.prog 71 #[.agg #[.int .i64 t.kind,.string t.text,.int .i64 t.cols,.slice A t.kids.length cap],.agg #[.slice (some ⟨gp,op,none⟩) p.length cp,.slice Am m.length cm],.slice (some ⟨g1+1+1,0,none⟩) 2 2,.slice Aq pos.length cq] W (Zv W aO)):=fun W Aq cq hW jh=>by
  have hw:=ak.out.trans (hW.mono ak.out.size);have dB:=dP.out.below hW hW.size;rw[HR.out];rw[<-bJ] at dB ⊢;exact zMn t p m pos eu A (some ⟨gp,op,none⟩) Am (some ⟨g1+1+1,0,none⟩) Aq cap cp cm _ cq W (aL.out.1.below hw hw.size) aL.out.2.1 aL.out.2.2.1 (aL.out.2.2.2.1.below hw hw.size) (aL.out.2.2.2.2.1.below hw hw.size) jh dB (by rw[bJ];decide) (fun k hk=>iV.out _ (List.getElem_mem hk))
 obtain⟨v3,j1⟩:=jD.out;have j0:(0:Int)<=(n:Int):=by omega
 have HW:Hid (Below V.heap.size V V):=hid (QQ _ _);clear aG bM bJ ed bz bu dZ fZ aK fV ae aj;refine wp_region_noPanic ?_;refine wp_region_held_drew (S:=fun w'=>ZZ (fun k=>k=w.heap.size+1+1) V w') (by kernel_rfl) (kwt HW.out) (fun hHeld=>?_);refine tr 0 142 24 3 rfl (fun w hS=>hS.obj aY.out jH.out) Tryz.underlying24 ?_;refine tr 1 143 27 4 rfl (fun w hS=>hS.obj aC.out fM.out) Tryz.underlying27 ?_;refine tk 2 144 rfl ?_;refine tk 3 145 rfl ?_;refine tk 4 146 rfl ?_ (hy:=Or.inl ⟨by rfl,fun W hS=>by have h:W.cell? ⟨ga,0,none⟩=some (.slice Ar dr.length cr):=(hS.obj ay.out fK.out).cell 0;clear hS;go_simp;try with_reducible rfl⟩);refine tk 5 147 rfl ?_;refine tk 6 148 rfl ?_ (hy:=Or.inl ⟨by rfl,fun W hS=>by have h:W.cell? ⟨ga,1,none⟩=some (.int .i64 da):=(hS.obj ay.out fK.out).cell 1;clear hS;go_simp;try with_reducible rfl⟩);refine tk 7 149 rfl ?_;refine tk 8 150 rfl ?_;refine tk 9 151 rfl ?_ (hy:=Or.inl ⟨by rfl,fun W hS=>by have h:W.cell? ⟨(w.heap.size+1),0,none⟩=some (.slice (some ⟨gp,op,none⟩) p.length cp):=(hS.obj aC.out fM.out).cell 0;clear hS;go_simp;try with_reducible rfl⟩);refine tk 10 152 rfl ?_;refine tk 11 153 rfl ?_ (hy:=Or.inl ⟨by rfl,fun W hS=>by have h:W.cell? ⟨(w.heap.size+1),0,none⟩=some (.slice (some ⟨gp,op,none⟩) p.length cp):=(hS.obj aC.out fM.out).cell 0;clear hS;go_simp;try with_reducible rfl⟩);refine tk 12 154 rfl ?_;refine tk 13 155 rfl ?_;refine tk 14 156 rfl ?_;refine tk 15 157 rfl ?_ (hy:=Or.inl ⟨by rfl,fun W hS=>by have h:=KP.out W hS;clear hS;go_simp;try with_reducible rfl⟩)
 refine r1 16 (some 158) rfl (fun K hK=>?_);go_simp
 first|refine X6 (fun Xr ag=>?_)|refine X8 (fun Xr ag=>?_)
 have HW:=hid ((bwt HW.out).trans (ag.out.1.mono (bwt HW.out).size));have fG:=hid ag.out.2;clear ag;refine hK.out _ _ (kwt HW.out) (fun hHeld=>?_);clear hK K;refine r1 17 (some 159) rfl (fun K hK=>?_);go_simp;refine Calls.mono (jO.out _ _ fG.out (bwt HW.out)) ?_;rintro e wq ⟨vq,rfl,eT,aD⟩;obtain⟨Aq,cq,rfl⟩:=eT.form;have jE:=hid eT;have HW:=hid ((bwt HW.out).trans (aD.mono (bwt HW.out).size));clear eT aD;refine hK.out _ _ (kwt HW.out) (fun hHeld=>?_);clear hK K;refine r1 18 (some 160) rfl (fun K hK=>?_);go_simp;refine Calls.mono (jL.out _ _ _ (bwt HW.out) jE.out) ?_;rintro e wk dw;have fH:=hid dw;obtain⟨jR,jB,jQ,jA,jS,jC,gJ,fD,gK,fE,rfl,_,_,_,_,_,iJ⟩:=dw;have HW:=hid ((bwt HW.out).trans (iJ.mono (bwt HW.out).size));have fU:=hid (HG.out.below HW.out);clear iJ;refine hK.out _ _ (kwt HW.out) (fun hHeld=>?_);clear hK K;refine tk 19 161 rfl ?_;refine tk 20 162 rfl ?_;rotate_left
 all_goals
  refine r1 21 none rfl (fun K hK=>?_);rw[if_pos (by rfl)];refine wp_store_row 35 (.tmp 6) (.tmp 161) rfl (w.heap.size+1+1) #[.slice jR aO.1.ops.length jB,.slice jQ aO.1.bp.length jA,.slice jS aO.1.bm.length jC,.slice gJ aO.1.ap.length fD,.slice gK aO.1.am.length fE] rfl rfl 35 _ fU.out (by kernel_rfl) (by simp) (by simp[Value.oneCell']) ?_;refine Wv fU.out (fun X9 eB=>?_);refine hK.out _ _ ((kwt HW.out).trans' eB.out.1) (fun hHeld=>?_);clear hK K;refine tk 22 7 rfl ?_;refine wpAnyH_done (by kernel_rfl) ?_ _;refine NoPanic.normal ?_
 all_goals
  first|refine(‹∀(a:Act) (eG:World),Code.wp Tryz.prog Code.ret (bodyPost Tryz.prog Tryz.f41 (Zv w aO)) a eG->_›) _ _ (wp_ret ?_)|refine(‹∀(a:Act) (eG:World),Code.wp Tryz.prog Code.ret (Exit.then _ (bodyPost Tryz.prog Tryz.f41 (Zv w aO))) a eG->_›) _ _ (wp_ret ?_)
  refine Yr Tryz.results41 Tryz.underlying35 (.int .i64 aO.2) eB.out.2.1 ?_;exact Zv.put (arr:=#[]) fH.out fU.out eB.out.1 eB.out.2.2 (ak.out.trans (HW.out.mono ak.out.size)) (by omega)
