/- T -/
import Derived.Test.YthpngeboknmllaaGreatQ8639
import Derived.Deep.CutBlock
set_option linter.unusedVariables false
set_option linter.unusedSimpArgs false
set_option maxHeartbeats 4000000
set_option maxRecDepth 100000
namespace Go.Proofs.YthpngeboknmllaaGreat
open Go.RowKit
theorem zPv (t:Z9) (p:List Int) (i:Int) (A Ap:Option Addr) (cap cp:Nat) (w:World) (S:Nat->Prop) (hS:∀k,S k->k<w.heap.size) (hv:Z8 Z7 w S t.kids (.slice A t.kids.length cap)) (aC:t.text.size<=maxLen) (aI:ZW t<=900000) (hp:Z0 w (Lt w.heap.size) p (.slice Ap p.length cp)) :
  Calls Tryz.prog 81 #[.agg #[.int .i64 t.kind,.string t.text,.int .i64 t.cols,.slice A t.kids.length cap],.slice Ap p.length cp,.int .i64 i] w (U1 S w (Y6 t p i).1.kind (Y6 t p i).1.text (Y6 t p i).1.cols (Y6 t p i).1.kids (Y6 t p i).2):=by
 obtain⟨W0,ak⟩:∃W0,(w.alloc (.cells #[.int .i64 t.kind,.string t.text,.int .i64 t.cols,.slice A t.kids.length cap] 24)).alloc (.cells #[.int .i64 0,.string ⟨#[]⟩,.int .i64 0,.slice none 0 0] 24)=W0:=⟨_,rfl⟩;have ae:Below w.heap.size w W0:=by rw[<-ak];exact Zq (ZX _ _) _
 have ag:Z5 W0 w.heap.size (.cells #[.int .i64 t.kind,.string t.text,.int .i64 t.cols,.slice A t.kids.length cap] 24):=by rw[<-ak];exact(Z5.at0 _ _).al _
 have aK:Hid (Z5 W0 (w.heap.size+1) (.cells #[.int .i64 0,.string ⟨#[]⟩,.int .i64 0,.slice none 0 0] 24)):=by show Z5 _ _ _;rw[<-ak];exact Z5.at1 _ _ _
 have C:=hid (zF0 t p A Ap cap cp W0 S (fun k hk=>QV (hS k hk) ae.size) (hv.keep (fun q hq=>ae.cell (hS _ hq)) (fun _ h=>h)) aC aI (hp.below ae ae.size));have HR:Hid (Y6 t p i=if (ZR t p).2≠0 then (ZJ,(ZR t p).2) else if i<0\/((ZR t p).1.kids.length:Int)<=i then (ZJ,2) else (WA (ZR t p).1.kids i.toNat,0)):=rfl;have az:=hid ae;have aJ:=hid hS;have m0:=ag.cell 0;have m1:=ag.cell 1;have m2:=ag.cell 2;have m3:=ag.cell 3;simp only[List.getElem?_toArray,List.getElem?_cons_zero,List.getElem?_cons_succ] at m0 m1 m2 m3;obtain⟨⟨rx,re⟩,aF⟩:∃r,ZR t p=r:=⟨_,rfl⟩;rw[aF] at C HR;obtain⟨rk,rt,rc,rs⟩:=rx;simp only[Z9.kind,Z9.text,Z9.cols,Z9.kids] at C HR;generalize Y6 t p i=RES at *;clear hS hv aC aI hp ae ag aF;go_enter Tryz.func81,Tryz.ntmps81
 go_wp2_with fail
 refine C.out.mono ?_;rintro e w1 ⟨v1,rfl,ax,ay⟩;obtain⟨A1,c1,rfl⟩:=ax.form;have av:=hid (az.out.trans (ay.mono az.out.size));have aL:=hid (aK.out.below ay);clear m0 m1 m2 m3 ay ak C aK
 go_upto_region 2 with (first
  |(refine wpList_store_row rfl 24 (.tmp 8) (.tmp 14) rfl w1.heap.size _ rfl rfl 24 _ (Z5.at0 _ _) (by kernel_rfl) (by simp) (by simp[Value.oneCell']) ?_)
  |fail)
 generalize hX:World.setRow _ _ _=X;have aj:=YL hX;have aD:Z5 X w1.heap.size (.cells #[.int .i64 rk,.string rt,.int .i64 rc,.slice A1 rs.length c1] 24):=by rw[<-hX];exact(Z5.at0 w1 _).row _
 have HG:Hid (Z5 X (w.heap.size+1) (.cells #[.int .i64 0,.string ⟨#[]⟩,.int .i64 0,.slice none 0 0] 24)):=hid (aL.out.below aj);have au:=hid (av.out.trans (aj.mono av.out.size));have af:Z8 Z7 X S rs (.slice A1 rs.length c1):=ax.keep (fun q hq=>aj.cell (QV (aJ.out _ hq) av.out.size)) (fun _ h=>h);have s3:X.cell? ⟨w1.heap.size,3,none⟩=some (.slice A1 rs.length c1):=aD.cell 3;clear hX aj aD ax aL az av;by_cases h0:re=0;rotate_left
 ·have aN:(re != 0)=true:=by simp[h0]
  have HE:=hid (HR.out.trans (if_pos h0));clear h0 HR af s3
  go_wp2_with (first
   |(refine wpList_store_row rfl 24 (.tmp 6) (.tmp 18) rfl (w.heap.size+1) _ rfl rfl 24 _ HG.out (by kernel_rfl) (by simp) (by simp[Value.oneCell']) ?_)
   |fail)
  refine bodyPost_ret (v:=.tuple #[.agg #[.int .i64 0,.string ⟨#[]⟩,.int .i64 0,.slice none 0 0],.int .i64 re]) (WQ Tryz.results81 _ _ _ (w.heap.size+1) 24 _ (0,0) _ rfl (HG.out.row _) rfl Tryz.underlying24 (by kernel_rfl) _ rfl) rfl ?_;rw[HE.out];exact⟨_,rfl,Z8.nil_ 0 (QU _) none,YV au.out (Nat.le_succ _) _⟩
 subst h0;have aN:((0:Int) != 0)=false:=rfl;have aa:=HR.out.trans (if_neg (by simp));obtain⟨_,_,rsx,hq,hlc,aO,ah,ai⟩:=af;cases hq;unfold maxLen at aO;by_cases h1:i<0
 ·have i1:decide (i<0)=true:=decide_eq_true h1;have HE:=hid (aa.trans (if_pos (.inl h1)));clear h1 HR aa ah ai
  go_wp2_with (first
   |(refine wpList_store_row rfl 24 (.tmp 6) (.tmp 29) rfl (w.heap.size+1) _ rfl rfl 24 _ HG.out (by kernel_rfl) (by simp) (by simp[Value.oneCell']) ?_)
   |fail)
  refine bodyPost_ret (v:=.tuple #[.agg #[.int .i64 0,.string ⟨#[]⟩,.int .i64 0,.slice none 0 0],.int .i64 2]) (WQ Tryz.results81 _ _ _ (w.heap.size+1) 24 _ (0,0) _ rfl (HG.out.row _) rfl Tryz.underlying24 (by kernel_rfl) _ rfl) rfl ?_;rw[HE.out];exact⟨_,rfl,Z8.nil_ 0 (QU _) none,YV au.out (Nat.le_succ _) _⟩
 have i1:decide (i<0)=false:=decide_eq_false h1;by_cases h2:(rs.length:Int)<=i
 ·have i2:decide ((rs.length:Int)<=i)=true:=decide_eq_true h2;have HE:=hid (aa.trans (if_pos (.inr h2)));clear h1 h2 HR aa ah ai
  go_wp2_with (first
   |(refine wpList_store_row rfl 24 (.tmp 6) (.tmp 29) rfl (w.heap.size+1) _ rfl rfl 24 _ HG.out (by kernel_rfl) (by simp) (by simp[Value.oneCell']) ?_)
   |fail)
  refine bodyPost_ret (v:=.tuple #[.agg #[.int .i64 0,.string ⟨#[]⟩,.int .i64 0,.slice none 0 0],.int .i64 2]) (WQ Tryz.results81 _ _ _ (w.heap.size+1) 24 _ (0,0) _ rfl (HG.out.row _) rfl Tryz.underlying24 (by kernel_rfl) _ rfl) rfl ?_;rw[HE.out];exact⟨_,rfl,Z8.nil_ 0 (QU _) none,YV au.out (Nat.le_succ _) _⟩
 have i2:decide ((rs.length:Int)<=i)=false:=decide_eq_false h2;have HE:=hid (aa.trans (if_neg (by omega)));obtain⟨k,rfl⟩:∃k:Nat,i=(k:Int):=⟨i.toNat,by omega⟩;have hk:k<rs.length:=by omega
 have aH:WA rs (k:Int).toNat=rs[k]:=by simp[WA,hk]
 rw[aH] at HE;obtain⟨gx,ox,Bx,bx,aM,rfl,hgx,x0,x1,x2,x3,_,_,_,aB,aA,af,aG⟩:=Y5 ah ai hk;have HX:Hid (Z8 Z7 X S rs[k].kids (.slice Bx rs[k].kids.length bx)):=⟨_,_,aM,rfl,aB,aA,af,aG⟩;have j0:(0:Int)<=(k:Int):=by omega
 have j1:(k:Int)<(rs.length:Int):=by omega
 clear h1 h2 HR aa ah ai aB aA af aG aH;generalize rs[k]=x at *
 go_wp2_with (first
  |(refine wpList_store_row rfl 24 (.tmp 6) (.tmp 34) rfl (w.heap.size+1) _ rfl rfl 24 _ HG.out (by kernel_rfl) (by simp) (by simp[Value.oneCell']) ?_)
  |fail)
 refine bodyPost_ret (v:=.tuple #[.agg #[.int .i64 x.kind,.string x.text,.int .i64 x.cols,.slice Bx x.kids.length bx],.int .i64 0]) (WQ Tryz.results81 _ _ _ (w.heap.size+1) 24 _ (0,0) _ rfl (HG.out.row _) rfl Tryz.underlying24 (by kernel_rfl) _ rfl) rfl ?_;rw[HE.out];exact⟨_,rfl,HX.out.keep (fun q hq=>World.cell?_of_block (setRow_other _ _ _ _ (by have:=aJ.out _ hq;omega))) (fun _ h=>h),YV au.out (Nat.le_succ _) _⟩
theorem zMn (t:Z9) (p m pos:List Int) (ops:List ZB) (A Ap Am Ao Aq:Option Addr) (cap cp cm co cq:Nat) (w:World) (hv:Z8 Z7 w (Lt w.heap.size) t.kids (.slice A t.kids.length cap)) (ay:Zt t) (az:ZW t<=900000) (hp:Z0 w (Lt w.heap.size) p (.slice Ap p.length cp)) (hm:Z0 w (Lt w.heap.size) m (.slice Am m.length cm)) (hq:Z0 w (Lt w.heap.size) pos (.slice Aq pos.length cq)) (ho:Z8 Zb w (Lt w.heap.size) ops (.slice Ao ops.length co)) (ax:ops.length<=1000) (aA:∀k (hk:k<ops.length),ZT ops[k].nodes<=100000) :
  Calls Tryz.prog 71 #[.agg #[.int .i64 t.kind,.string t.text,.int .i64 t.cols,.slice A t.kids.length cap],.agg #[.slice Ap p.length cp,.slice Am m.length cm],.slice Ao ops.length co,.slice Aq pos.length cq] w (Zv w (XW t p m ops pos [])):=by
 obtain⟨W0,aB,aa,ae,ho2,aC⟩:=Ty t p m A Ap Am cap cp cm w;have aD:Hid (Z5 W0 (w.heap.size+1) (.cells #[.slice Ap p.length cp,.slice Am m.length cm] 27)):=by show Z5 _ _ _;rw[<-aB];exact(Z5.at1 _ _ _).al _
 have C:=hid (zMf t ops A Ao cap co W0 (hv.below aa aa.size) ay az (ho.below aa aa.size) ax aA);have ah:=hid (QS ho (QS hp (QS hm hq)));have HR:Hid (XW t p m ops pos []=if (Xn t ops).2=0 then (⟨ops,p,m,pos,[]⟩,0) else (Zo,6)):=rfl;have au:=hid aa;have m0:=ae.cell 0;have m1:=ae.cell 1;have m2:=ae.cell 2;have m3:=ae.cell 3;simp only[List.getElem?_toArray,List.getElem?_cons_zero,List.getElem?_cons_succ] at m0 m1 m2 m3;generalize Xn t ops=AR at *;obtain⟨⟨rk,rt,rc,rs⟩,re⟩:=AR;generalize XW t p m ops pos []=RES at *;clear hv ay az hp hm hq ho ax aA aa ae;go_enter Tryz.func71,Tryz.ntmps71
 go_wp2_with fail
 refine C.out.mono ?_;rintro e w1 ⟨v1,i1,rfl,av,ag⟩;obtain⟨A1,c1,rfl⟩:=av.form;simp only[Z9.kind,Z9.text,Z9.cols,Z9.kids] at *;have ak:=hid (au.out.trans (ag.mono au.out.size));have aG:=hid (aD.out.below ag);have aF:=hid (aC.out.below ag);clear m0 m1 m2 m3 ag aB C aD aC av
 go_upto_region 2 with (first
  |(refine wpList_store_row rfl 24 (.tmp 10) (.tmp 17) rfl w1.heap.size _ rfl rfl 24 _ (Z5.at0 _ _) (by kernel_rfl) (by simp) (by simp[Value.oneCell']) ?_)
  |fail)
 generalize hX:World.setRow _ _ _=X;have af:=YL hX;have HG:Hid (Z5 X (w.heap.size+1+1) (.cells #[.slice none 0 0,.slice none 0 0,.slice none 0 0,.slice none 0 0,.slice none 0 0] 35)):=hid (aF.out.below af);have aj:=aG.out.below af;have n0:X.cell? ⟨w.heap.size+1,0,none⟩=some (.slice Ap p.length cp):=aj.cell 0;have n1:X.cell? ⟨w.heap.size+1,1,none⟩=some (.slice Am m.length cm):=aj.cell 1;have ai:=hid (ak.out.trans (af.mono ak.out.size));clear hX af aj aG aF au ak;by_cases h0:re=0
 ·subst h0;have HE:=hid (HR.out.trans (if_pos rfl));clear HR
  go_wp2_with (first
   |(refine wpList_store_row rfl 35 (.tmp 8) (.tmp 27) rfl (w.heap.size+1+1) _ rfl rfl 35 _ HG.out (by kernel_rfl) (by simp) (by simp[Value.oneCell']) ?_)
   |fail)
  refine bodyPost_ret (v:=.tuple #[.agg #[.slice Ao ops.length co,.slice Ap p.length cp,.slice Am m.length cm,.slice Aq pos.length cq,.slice none 0 0],.int .i64 0]) (WQ Tryz.results71 _ _ _ (w.heap.size+1+1) 35 _ (0,0) _ rfl (HG.out.row _) rfl Tryz.underlying35 (by kernel_rfl) _ rfl) rfl ?_;rw[HE.out];have kp:∀{α:Type} {E:YW α} {xs:List α} {v:Value},Z8 E w (Lt w.heap.size) xs v->Z8 E (X.setRow (w.heap.size+1+1) #[.slice Ao ops.length co,.slice Ap p.length cp,.slice Am m.length cm,.slice Aq pos.length cq,.slice none 0 0]) (Lt (X.setRow (w.heap.size+1+1) #[.slice Ao ops.length co,.slice Ap p.length cp,.slice Am m.length cm,.slice Aq pos.length cq,.slice none 0 0]).heap.size) xs v:=fun h=>h.keep (fun q hq=>(World.cell?_of_block (setRow_other _ _ _ _ (by have:q.block<w.heap.size:=hq;omega))).trans (ai.out.cell hq)) (fun k hk=>by unfold Lt;rw[size_setRow];exact QV hk ai.out.size)
  exact⟨Ao,co,Ap,cp,Am,cm,Aq,cq,none,0,rfl,kp ah.out.1,kp ah.out.2.1,kp ah.out.2.2.1,kp ah.out.2.2.2,Z8.nil_ 0 (QU _) none,YV ai.out (by omega) _⟩
 have hse:(re != 0)=true:=by simp[h0]
 have HE:=hid (HR.out.trans (if_neg h0));clear h0 HR n0 n1
 go_wp2_with (first
  |(refine wpList_store_row rfl 35 (.tmp 8) (.tmp 22) rfl (w.heap.size+1+1) _ rfl rfl 35 _ HG.out (by kernel_rfl) (by simp) (by simp[Value.oneCell']) ?_)
  |fail)
 refine bodyPost_ret (v:=.tuple #[.agg #[.slice none 0 0,.slice none 0 0,.slice none 0 0,.slice none 0 0,.slice none 0 0],.int .i64 6]) (WQ Tryz.results71 _ _ _ (w.heap.size+1+1) 35 _ (0,0) _ rfl (HG.out.row _) rfl Tryz.underlying35 (by kernel_rfl) _ rfl) rfl ?_;rw[HE.out];exact UQ 6 (YV ai.out (by omega) _)
def AroV (w:World) (x:Option UV) (e:Ending) (w':World):Prop:=Below w.heap.size w w' /\
 ((x=none/\e=.returned (.tuple #[.agg #[.slice none 0 0,.int .i64 0,.int .i64 0,.int .i64 0,.string ⟨#[]⟩,.int .i64 0,.slice none 0 0],.bool false]))\/∃d Ar cr Ai ci,x=some d/\e=.returned (.tuple #[.agg #[.slice Ar d.row.length cr,.int .i64 d.at_,.int .i64 d.own,.int .i64 d.item.kind,.string d.item.text,.int .i64 d.item.cols,.slice Ai d.item.kids.length ci],.bool true])/\Z0 w' (Lt w.heap.size) d.row (.slice Ar d.row.length cr)/\Z8 Z7 w' (Lt w.heap.size) d.item.kids (.slice Ai d.item.kids.length ci))
theorem zKb (t:Z9) (p:List Int) (A Ap:Option Addr) (cap cp:Nat) (w:World) (hv:Z8 Z7 w (Lt w.heap.size) t.kids (.slice A t.kids.length cap)) (aA:t.text.size<=maxLen) (aD:ZW t<=900000) (hp:Z0 w (Lt w.heap.size) p (.slice Ap p.length cp)) (aJ:p.length<=90000) :
  Calls Tryz.prog 75 #[.agg #[.int .i64 t.kind,.string t.text,.int .i64 t.cols,.slice A t.kids.length cap],.slice Ap p.length cp] w (AroV w (Zz t p)):=by
 obtain⟨W0,ax⟩:∃W0,(w.alloc (.cells #[.int .i64 t.kind,.string t.text,.int .i64 t.cols,.slice A t.kids.length cap] 24)).alloc (.cells #[.slice none 0 0,.int .i64 0,.int .i64 0,.int .i64 0,.string ⟨#[]⟩,.int .i64 0,.slice none 0 0] 103)=W0:=⟨_,rfl⟩;have ae:Below w.heap.size w W0:=by rw[<-ax];exact Zq (ZX _ _) _
 have aQ:Hid (Z5 W0 w.heap.size (.cells #[.int .i64 t.kind,.string t.text,.int .i64 t.cols,.slice A t.kids.length cap] 24)):=by show Z5 _ _ _;rw[<-ax];exact(Z5.at0 _ _).al _
 have ak:Hid (Z5 W0 (w.heap.size+1) (.cells #[.slice none 0 0,.int .i64 0,.int .i64 0,.int .i64 0,.string ⟨#[]⟩,.int .i64 0,.slice none 0 0] 103)):=by show Z5 _ _ _;rw[<-ax];exact Z5.at1 _ _ _
 have aa:=hid ae;rcases Nat.lt_or_ge p.length 3 with h3|h3
 ·have HR:Hid (Zz t p=none):=by show _=_;unfold Zz;rw[if_pos h3]
  have i3:decide ((p.length:Int)<3)=true:=decide_eq_true (by omega);generalize Zz t p=aP at *;clear hv aA aD hp aJ h3 ae;go_enter Tryz.func75,Tryz.ntmps75
  go_wp2_with (first
   |(refine sR 103 4 13 ak.out ?_)
   |fail)
  refine Yr Tryz.results75 Tryz.underlying103 (.bool false) (ak.out.row _) ?_;exact⟨YV aa.out (Nat.le_succ _) _,.inl ⟨HR.out,rfl⟩⟩
 obtain⟨n,hn⟩:∃n,p.length=n+3:=⟨p.length-3,by omega⟩;obtain⟨gp,op,rfl,ai,aF⟩:=zGp hp (by omega);have ai:gp<w.heap.size:=ai;have aL:p.length<=cp:=by obtain⟨_,_,_,hq,h1,_⟩:=hp;cases hq;exact h1
 obtain⟨A1,hs1,hc1⟩:=UJ ZF Tryz.underlying25 XA (some ⟨gp,op,none⟩) p.length cp (n:Int) n rfl (by omega) aL;obtain⟨n1,aK⟩:∃n1,n1=n+1:=⟨_,rfl⟩;have av:(p.take n).length=n:=by simp;omega
 obtain⟨pn,aB⟩:∃pn,pn=p[n]'(by omega):=⟨_,rfl⟩;obtain⟨pm,aC⟩:∃pm,pm=p[n1]'(by omega):=⟨_,rfl⟩;have KP:Hid (∀W,Below W0.heap.size W0 W->W.cell? ⟨gp,op+n,none⟩=some (.int .i64 pn)):=fun W hW=>(((ae.trans (hW.mono ae.size)).cell (p:=⟨gp,_,none⟩) ai).trans (aF n (by omega))).trans (by rw[aB])
 have KQ:Hid (∀W,Below W0.heap.size W0 W->W.cell? ⟨gp,op+n1,none⟩=some (.int .i64 pm)):=fun W hW=>(((ae.trans (hW.mono ae.size)).cell (p:=⟨gp,_,none⟩) ai).trans (aF n1 (by omega))).trans (by rw[aC])
 have HQ:Hid (∀W,Below w.heap.size w W->Z0 W (Lt w.heap.size) (p.take n) (.slice A1 n cp)):=fun W hW=>hc1 W (Lt w.heap.size) p (hp.keep (fun q hq=>hW.cell hq) (fun _ h=>h))
 obtain⟨IR,aH⟩:∃IR,Y6 t (p.take n) pn=IR:=⟨_,rfl⟩;have CI:Hid (∀W,Below W0.heap.size W0 W->Calls Tryz.prog 81 #[.agg #[.int .i64 t.kind,.string t.text,.int .i64 t.cols,.slice A t.kids.length cap],.slice A1 n cp,.int .i64 pn] W (U1 (Lt w.heap.size) W IR.1.kind IR.1.text IR.1.cols IR.1.kids IR.2)):=fun W hW=>by
  have hw:=ae.trans (hW.mono ae.size);have h9:=zPv t (p.take n) pn A A1 cap cp W (Lt w.heap.size) (fun k hk=>QV hk hw.size) (hv.keep (fun q hq=>hw.cell hq) (fun _ h=>h)) aA aD (by rw[av];exact(HQ.out W hw).keep (fun _ _=>rfl) (fun k hk=>QV hk hw.size));rwa[av,aH] at h9
 have HR:Hid (Zz t p=some ⟨p.take n,pn,pm,IR.1⟩):=by
  show _=_;unfold Zz;rw[if_neg (by omega),show p.length-3=n by omega,show p.length-2=n1 by omega];have e1:p.getD n 0=pn:=by rw[List.getD_eq_getElem?_getD,List.getElem?_eq_getElem (by omega),aB];rfl
  have e2:p.getD n1 0=pm:=by rw[List.getD_eq_getElem?_getD,List.getElem?_eq_getElem (by omega),aC];rfl
  rw[e1,e2,aH]
 have v3:IntKind.i64.wrap ((p.length:Int)-3)=(n:Int):=by rw[show (p.length:Int)-3=(n:Int) by omega];exact IntWalk.i64_in _ (by omega)
 have v2:IntKind.i64.wrap ((p.length:Int)-2)=(n1:Int):=by rw[show (p.length:Int)-2=(n1:Int) by omega];exact IntWalk.i64_in _ (by omega)
 have i3:decide ((p.length:Int)<3)=false:=decide_eq_false (by omega);have j0:(0:Int)<=(n:Int):=by omega
 have j1:(n:Int)<(p.length:Int):=by omega
 have j2:(0:Int)<=(n1:Int):=by omega
 have j3:(n1:Int)<(p.length:Int):=by omega
 have au:=hid ai;have aO:=hid av;have HIN:=hid (QS hn aK);obtain⟨⟨xk,xt,xc,xs⟩,ex⟩:=IR;simp only[Z9.kind,Z9.text,Z9.cols,Z9.kids] at CI;generalize Zz t p=aP at *;have HW:Hid (Below W0.heap.size W0 W0):=hid (QQ _ _);clear hv aA aD hp aJ h3 ae ai aL hc1 aF aB aC aH hn av;clear aK;go_enter Tryz.func75,Tryz.ntmps75
 go_upto_region 4 with fail
 clear ax;refine wp_region_noPanic ?_;refine wp_region_held_drew (S:=fun w'=>Below W0.heap.size W0 w') (by kernel_rfl) (bwt HW.out) (fun hHeld=>?_);refine tr 0 15 24 2 rfl (fun w hS=>aQ.out.below hS) Tryz.underlying24 ?_;refine tk 1 16 rfl ?_;refine tk 2 17 rfl ?_;refine tk 3 18 rfl ?_;refine tk 4 19 rfl ?_;refine tk 5 20 rfl ?_;refine tk 6 21 rfl ?_;refine tk 7 22 rfl ?_;refine tk 8 23 rfl ?_;refine tk 9 24 rfl ?_ (hy:=Or.inl ⟨by rfl,fun W hS=>by have h:=KP.out W hS;clear hS;go_simp;try with_reducible rfl⟩);refine rn [10,14] (rc (some 25) rfl (fun K hK=>?_) (rc (some 7) rfl (fun K hK=>?_) AllReadyH.nil));go_simp;refine Calls.mono (CI.out _ (bwt HW.out)) ?_;rintro e w1 ⟨v1,rfl,ag,ah⟩;obtain⟨Ai,ci,rfl⟩:=ag.form;have aN:=hid ag
 try have HN:=hid (HN.out.below ah)
 have HW:=hid ((bwt HW.out).trans (ah.mono (bwt HW.out).size));clear ag ah;refine hK.out _ _ (HW.out) (fun hHeld=>?_);clear hK K;refine tk 11 14 rfl ?_;refine tk 12 26 rfl ?_;refine tk 13 27 rfl ?_;refine r1 14 (some 7) rfl (fun K hK=>?_);go_simp
 first|have HN:=hid (Z5.at0 w1 (.cells #[.int .i64 0,.string ⟨#[]⟩,.int .i64 0,.slice none 0 0] 24))|have HN:=hid ((Z5.at0 W0 (.cells #[.int .i64 0,.string ⟨#[]⟩,.int .i64 0,.slice none 0 0] 24)).dr)
 refine hK.out _ _ (bwt HW.out) (fun hHeld=>?_);clear hK K;refine r1 15 none rfl (fun K hK=>?_);rw[if_pos (by rfl)];refine wp_store_row 24 (.tmp 7) (.tmp 26) rfl _ #[.int .i64 xk,.string xt,.int .i64 xc,.slice Ai xs.length ci] rfl rfl 24 _ HN.out (by kernel_rfl) (by simp) (by simp[Value.oneCell']) ?_;refine Wv HN.out (fun X9 aj=>?_);have af:Hid (Below W0.heap.size W0 X9):=(bwt HW.out).trans (aj.out.1.below (bwt HW.out).size (fun k e=>by rw[e];first|exact QT _|exact HW.out.size));have aI:Hid (w.heap.size+1<W0.heap.size):=ak.out.lt;refine hK.out _ _ (af.out) (fun hHeld=>?_);clear hK K;refine tk 16 8 rfl ?_;refine wpAnyH_done (by kernel_rfl) ?_ _;refine NoPanic.normal ?_;rotate_left;go_simp
 first|have HN:=hid (Z5.at0 w1 (.cells #[.int .i64 0,.string ⟨#[]⟩,.int .i64 0,.slice none 0 0] 24))|have HN:=hid ((Z5.at0 W0 (.cells #[.int .i64 0,.string ⟨#[]⟩,.int .i64 0,.slice none 0 0] 24)).dr)
 refine hK.out _ _ (bwt HW.out) (fun hHeld=>?_);clear hK K;refine r1 10 (some 25) rfl (fun K hK=>?_);go_simp;refine Calls.mono (CI.out _ (bwt HW.out)) ?_;rintro e w1 ⟨v1,rfl,ag,ah⟩;obtain⟨Ai,ci,rfl⟩:=ag.form;have aN:=hid ag
 try have HN:=hid (HN.out.below ah)
 have HW:=hid ((bwt HW.out).trans (ah.mono (bwt HW.out).size));clear ag ah;refine hK.out _ _ (HW.out) (fun hHeld=>?_);clear hK K;refine tk 11 14 rfl ?_;refine tk 12 26 rfl ?_;refine tk 13 27 rfl ?_;refine r1 15 none rfl (fun K hK=>?_);rw[if_pos (by rfl)];refine wp_store_row 24 (.tmp 7) (.tmp 26) rfl _ #[.int .i64 xk,.string xt,.int .i64 xc,.slice Ai xs.length ci] rfl rfl 24 _ HN.out (by kernel_rfl) (by simp) (by simp[Value.oneCell']) ?_;refine Wv HN.out (fun X9 aj=>?_);have af:Hid (Below W0.heap.size W0 X9):=(bwt HW.out).trans (aj.out.1.below (bwt HW.out).size (fun k e=>by rw[e];first|exact QT _|exact HW.out.size));have aI:Hid (w.heap.size+1<W0.heap.size):=ak.out.lt;refine hK.out _ _ (af.out) (fun hHeld=>?_);clear hK K;refine tk 16 8 rfl ?_;refine wpAnyH_done (by kernel_rfl) ?_ _;refine NoPanic.normal ?_;rotate_left
 all_goals
  have HG:=hid (ak.out.below af.out);have az:Hid (gp<X9.heap.size/\gp≠w.heap.size+1):=⟨QV au.out (aa.out.trans (af.out.mono aa.out.size)).size,by have:=au.out;omega⟩
  go_upto_region 5 with fail
  refine wp_region_noPanic ?_;refine wp_region_held_drew (S:=fun w'=>ZZ (fun k=>k=w.heap.size+1) X9 w') (by kernel_rfl) (ZZ.of_below (XF (QQ _ _)) _) (fun hHeld=>?_);refine tk 0 28 rfl ?_;refine tk 1 29 rfl ?_;refine tk 2 30 rfl ?_;refine tk 3 31 rfl ?_;refine tk 4 32 rfl ?_;refine tk 5 33 rfl ?_;refine tk 6 34 rfl ?_;refine tk 7 35 rfl ?_;refine tk 8 36 rfl ?_ (hy:=Or.inl ⟨by rfl,fun W hS=>by have h:=(hS.cell (p:=⟨gp,op+n,none⟩) az.out.1 az.out.2).trans (KP.out X9 af.out);clear hS;go_simp;try with_reducible rfl⟩);refine tk 9 37 rfl ?_;refine tk 10 38 rfl ?_;refine tk 11 39 rfl ?_;refine tk 12 40 rfl ?_;refine tk 13 41 rfl ?_ (hy:=Or.inl ⟨by rfl,fun W hS=>by have h:=(hS.cell (p:=⟨gp,op+n1,none⟩) az.out.1 az.out.2).trans (KQ.out X9 af.out);clear hS;go_simp;try with_reducible rfl⟩);refine tr 14 42 24 7 rfl (fun w hS=>hS.obj aj.out.2.1 (by first|exact Nat.ne_of_gt aI.out|exact Nat.ne_of_gt (QV aI.out HW.out.size))) Tryz.underlying24 ?_;refine tk 15 43 rfl ?_;refine r1 16 none rfl (fun K hK=>?_);rw[if_pos (by rfl)];refine wp_store_row 103 (.tmp 4) (.tmp 43) rfl (w.heap.size+1) #[.slice A1 n cp,.int .i64 pn,.int .i64 pm,.int .i64 xk,.string xt,.int .i64 xc,.slice Ai xs.length ci] rfl rfl 103 _ HG.out (by kernel_rfl) (by simp) (by simp[Value.oneCell']) ?_;refine Wv HG.out (fun Y9 ay=>?_);refine hK.out _ _ ((ZZ.of_below (XF (QQ _ _)) _).trans' ay.out.1) (fun hHeld=>?_);clear hK K;refine tk 17 5 rfl ?_;refine wpAnyH_done (by kernel_rfl) ?_ _;refine NoPanic.normal ?_
  go_wp2_with fail
  refine Yr Tryz.results75 Tryz.underlying103 (.bool true) ay.out.2.1 ?_;have aG:Below w.heap.size w X9.drew:=Below.drew (aa.out.trans (af.out.mono aa.out.size));have aM:=aG.trans ((ay.out.1.below (B:=w.heap.size) aG.size (fun k e=>by rw[e];exact Nat.le_succ _)));have hx:∀q:Addr,q.block<w.heap.size->Y9.cell? q=w1.cell? q:=fun q hq=>(ay.out.1.cell (QV hq aG.size) (by omega)).trans (by
   first
    |exact(aj.out.1.cell (QV hq (aa.out.trans (HW.out.mono aa.out.size)).size) (by have:=(aa.out.trans (HW.out.mono aa.out.size)).size;have:=aa.out.size;omega))
    |exact(aj.out.1.cell (QV hq (aa.out.trans ((bwt HW.out).mono aa.out.size)).size) (by have:=(aa.out.trans (HW.out.mono aa.out.size)).size;omega)).trans ((ZX w1 _).cell (QV hq (aa.out.trans (HW.out.mono aa.out.size)).size)))
  refine⟨aM,.inr ⟨_,A1,cp,Ai,ci,HR.out,?_,?_,aN.out.keep (fun q hq=>hx q hq) (fun _ h=>h)⟩⟩
  ·simp only[aO.out];rfl
  simp only[aO.out];exact HQ.out Y9 aM
theorem zKa (S:Nat->Prop) (it:Z9) (s:Nat) (aa:List Int) (af:Int) (Ao Ai:Option Addr) (co ci:Nat) (w:World) (hS:∀k,S k->k<w.heap.size) (hv:Z8 Z7 w S it.kids (.slice Ai it.kids.length ci)) (aD:Zt it) (aN:ZW it<=900000) (aB:Z0 w S aa (.slice Ao aa.length co)) (hs:s<it.kids.length) :
  Calls Tryz.prog 76 #[.agg #[.slice Ao aa.length co,.int .i64 af,.int .i64 (s:Int),.int .i64 it.kind,.string it.text,.int .i64 it.cols,.slice Ai it.kids.length ci]] w (Q3 S w (Zf ⟨aa,af,(s:Int),it⟩)):=by
 obtain⟨W0,ax⟩:∃W0,(w.alloc (.cells #[.slice Ao aa.length co,.int .i64 af,.int .i64 (s:Int),.int .i64 it.kind,.string it.text,.int .i64 it.cols,.slice Ai it.kids.length ci] 103)).alloc (.cells #[.int .i64 0,.slice none 0 0,.int .i64 0,.int .i64 0,.slice none 0 0,.int .i64 0,.string ⟨#[]⟩,.string ⟨#[]⟩] 49)=W0:=⟨_,rfl⟩;have au:Below w.heap.size w W0:=by rw[<-ax];exact Zq (ZX _ _) _
 have ah:Hid (Z5 W0 w.heap.size (.cells #[.slice Ao aa.length co,.int .i64 af,.int .i64 (s:Int),.int .i64 it.kind,.string it.text,.int .i64 it.cols,.slice Ai it.kids.length ci] 103)):=by show Z5 _ _ _;rw[<-ax];exact(Z5.at0 _ _).al _
 have aA:Hid (Z5 W0 (w.heap.size+1) (.cells #[.int .i64 0,.slice none 0 0,.int .i64 0,.int .i64 0,.slice none 0 0,.int .i64 0,.string ⟨#[]⟩,.string ⟨#[]⟩] 49)):=by show Z5 _ _ _;rw[<-ax];exact Z5.at1 _ _ _
 have ai:=hid au;have aj:it.kids.length<=1000000:=by have:=Yz it;omega
 have CR:Hid (∀W,Below w.heap.size w W->Calls Tryz.prog 80 #[.agg #[.int .i64 it.kind,.string it.text,.int .i64 it.cols,.slice Ai it.kids.length ci],.int .i64 (s:Int),.agg #[.int .i64 1,.string ⟨#[]⟩,.int .i64 0,.slice none 0 0]] W (XO S W (Zp it s []))):=fun W hW =>
  Ry it (Z6 []) s Ai none ci 0 W S (fun k hk=>QV (hS k hk) hW.size) hs aj (Rn []) (hv.keep (fun q hq=>hW.cell (hS _ hq)) (fun _ h=>h)) (Z8.nil_ 0 (QU _) none)
 obtain⟨_,_,rs,hq,_,_,aC,aF⟩:=hv;cases hq;obtain⟨gx,ox,Bx,bx,rs2,rfl,ak,x0,x1,x2,x3,_,_,_,aK,aJ,aL,aM⟩:=Y5 aC aF hs;have ak:=hS gx ak;obtain⟨n,hn⟩:∃n,n=it.kids[s].kids.length:=⟨_,rfl⟩;rw[<-hn] at x3;have KX:Hid (∀W,ZZ (fun k=>k=w.heap.size+1) W0 W->W.cell? ⟨gx,ox+s*4+3,none⟩=some (.slice Bx n bx)):=fun W hW=>(hW.cell (p:=⟨gx,_,none⟩) (QV ak au.size) (by show ¬gx=_;omega)).trans ((au.cell (p:=⟨gx,_,none⟩) ak).trans x3)
 have HR:Hid (Zf ⟨aa,af,(s:Int),it⟩=⟨4,aa,af,n,[Zp it s []],(s:Int),ZQ,ZQ⟩):=by
  show _=_;unfold Zf;simp only[Int.toNat_natCast];rw[Yq (by simpa using hs)];simp only[Int.toNat_natCast,<-hn]
 have aQ:Hid (Zt (Zp it s [])):=aD;have ag:=hid hS;have HHN:=hid hn;have aP:=hid aB;have j0:(0:Int)<=(s:Int):=by omega
 have j1:(s:Int)<(it.kids.length:Int):=by omega
 have HW:Hid (Below W0.heap.size W0 W0):=hid (QQ _ _);generalize Zf ⟨aa,af,(s:Int),it⟩=RES at *;clear hS aB aD aN aC aF aK aJ aL aM x0 x1 x2 x3 au ak aj hn;go_enter Tryz.func76,Tryz.ntmps76
 go_upto_region 1 with fail
 clear ax;refine wp_region_noPanic ?_;refine wp_region_held_drew (S:=fun w'=>ZZ (fun k=>k=w.heap.size+1) W0 w') (by kernel_rfl) (kwt HW.out) (fun hHeld=>?_);refine tk 0 3 rfl ?_;refine tk 1 4 rfl ?_ (hy:=Or.inl ⟨by rfl,fun W hS=>by have h0:=hS.obj ah.out (Nat.ne_of_lt (Nat.lt_succ_self _));have c0:=h0.cell 0;simp only[List.getElem?_toArray,List.getElem?_cons_zero,List.getElem?_cons_succ] at c0;clear hS h0;go_simp;try with_reducible rfl⟩);refine tk 2 5 rfl ?_;refine tk 3 6 rfl ?_ (hy:=Or.inl ⟨by rfl,fun W hS=>by have h0:=hS.obj ah.out (Nat.ne_of_lt (Nat.lt_succ_self _));have c1:=h0.cell 1;simp only[List.getElem?_toArray,List.getElem?_cons_zero,List.getElem?_cons_succ] at c1;clear hS h0;go_simp;try with_reducible rfl⟩);refine tk 4 7 rfl ?_;refine tk 5 8 rfl ?_;refine tk 6 9 rfl ?_ (hy:=Or.inl ⟨by rfl,fun W hS=>by have h0:=hS.obj ah.out (Nat.ne_of_lt (Nat.lt_succ_self _));have c6:=h0.cell 6;simp only[List.getElem?_toArray,List.getElem?_cons_zero,List.getElem?_cons_succ] at c6;clear hS h0;go_simp;try with_reducible rfl⟩);refine tk 7 10 rfl ?_;refine tk 8 11 rfl ?_ (hy:=Or.inl ⟨by rfl,fun W hS=>by have h0:=hS.obj ah.out (Nat.ne_of_lt (Nat.lt_succ_self _));have c2:=h0.cell 2;simp only[List.getElem?_toArray,List.getElem?_cons_zero,List.getElem?_cons_succ] at c2;clear hS h0;go_simp;try with_reducible rfl⟩);refine tk 9 12 rfl ?_;refine tk 10 13 rfl ?_;refine tk 11 14 rfl ?_ (hy:=Or.inl ⟨by rfl,fun W hS=>by have h:=KX.out W hS;clear hS;go_simp;try with_reducible rfl⟩);refine tk 12 15 rfl ?_
 refine tk 13 16 rfl ?_;refine tk 14 17 rfl ?_ (hy:=Or.inl ⟨by rfl,fun W hS=>by have h0:=hS.obj ah.out (Nat.ne_of_lt (Nat.lt_succ_self _));have c2:=h0.cell 2;simp only[List.getElem?_toArray,List.getElem?_cons_zero,List.getElem?_cons_succ] at c2;clear hS h0;go_simp;try with_reducible rfl⟩);refine tk 15 18 rfl ?_;refine tk 16 19 rfl ?_ (hy:=Or.inl ⟨by rfl,fun W hS=>by have h0:=hS.obj ah.out (Nat.ne_of_lt (Nat.lt_succ_self _));have c3:=h0.cell 3;have c4:=h0.cell 4;have c5:=h0.cell 5;have c6:=h0.cell 6;simp only[List.getElem?_toArray,List.getElem?_cons_zero,List.getElem?_cons_succ] at c3 c4 c5 c6;clear hS h0;go_simp;try with_reducible rfl⟩);refine tk 17 20 rfl ?_;refine tk 18 21 rfl ?_ (hy:=Or.inl ⟨by rfl,fun W hS=>by have h0:=hS.obj ah.out (Nat.ne_of_lt (Nat.lt_succ_self _));have c2:=h0.cell 2;simp only[List.getElem?_toArray,List.getElem?_cons_zero,List.getElem?_cons_succ] at c2;clear hS h0;go_simp;try with_reducible rfl⟩);refine r1 19 (some 22) rfl (fun K hK=>?_);go_simp;refine Calls.mono (UU _ none 0 0) ?_;rintro e wt ⟨rfl,aG⟩;have HW:=hid ((bwt HW.out).trans (aG.mono (bwt HW.out).size));clear aG;refine hK.out _ _ (kwt HW.out) (fun hHeld=>?_);clear hK K;refine r1 20 (some 23) rfl (fun K hK=>?_);go_simp;refine Calls.mono (CR.out _ (ai.out.trans ((bwt HW.out).mono ai.out.size))) ?_;rintro e wr ⟨vr,rfl,ay,ae⟩;obtain⟨Af,cf,rfl⟩:=ay.form;have aI:=HW;have aO:=hid ay;have HW:=hid ((bwt HW.out).trans (ae.mono (bwt HW.out).size));clear ay ae;refine hK.out _ _ (kwt HW.out) (fun hHeld=>?_)
 clear hK K;refine r1 21 (some 24) rfl (fun K hK=>?_);go_simp;refine hK.out _ _ (kwt HW.out) (fun hHeld=>?_);clear hK K;refine tk 22 25 rfl ?_;refine r1 23 none rfl (fun K hK=>?_);rw[if_pos (by rfl)];refine wp_store_row 49 (.tmp 2) (.tmp 25) rfl (w.heap.size+1) #[.int .i64 4,.slice Ao aa.length co,.int .i64 af,.int .i64 n,.slice (some ⟨wr.heap.size,0,none⟩) 1 1,.int .i64 (s:Int),.string ⟨#[]⟩,.string ⟨#[]⟩] rfl rfl 49 _ ((aA.out.below HW.out).al _) (by kernel_rfl) (by simp) (by simp[Value.oneCell']) ?_;refine Wv ((aA.out.below HW.out).al _) (fun X9 av=>?_);refine hK.out _ _ ((kwt HW.out).trans' av.out.1) (fun hHeld=>?_);clear hK K
 try simp only[qP,qN,qS,qZ,qC]
 refine wpAnyH_done (by kernel_rfl) ?_ _;refine NoPanic.normal ?_
 go_wp2_with fail
 refine bodyPost_ret (v:=.agg #[.int .i64 4,.slice Ao aa.length co,.int .i64 af,.int .i64 n,.slice (some ⟨wr.heap.size,0,none⟩) 1 1,.int .i64 (s:Int),.string ⟨#[]⟩,.string ⟨#[]⟩]) (results_cell_row Tryz.results76 _ _ (w.heap.size+1) 49 _ (0,0) _ rfl av.out.2.1 Tryz.underlying49 rfl (by kernel_rfl)) rfl ?_;rw[HR.out];have ae:=ai.out.trans (HW.out.mono ai.out.size);have hz:=aA.out.lt;have hzw:=HW.out.size;have au:=ai.out.size;have az:=Uk (T:=24) (w:=wr) (S:=fun q=>S q\/w.heap.size<=q/\q<wr.heap.size/\q≠w.heap.size+1) (fun q hq=>by rcases hq with hq|hq;exact QV (ag.out q hq) ae.size;exact hq.2.1) (show Zt (.mk it.kind it.text it.cols (Zp it s []).kids) from aQ.out) (aO.out.keep (fun _ _=>rfl) (fun q hq=>hq.imp id (fun h=>⟨QP (ai.out.trans (aI.out.mono ai.out.size)).size h.1,h.2,by have:=aI.out.size;omega⟩)));have aH:X9.heap.size=wr.heap.size+1:=by rw[av.out.2.2];simp
 have hx:∀q:Addr,q.block<wr.heap.size+1->q.block≠w.heap.size+1->X9.cell? q=_:=fun q h1 h2=>av.out.1.cell (by simpa using h1) h2
 refine⟨Ao,co,_,_,rfl,aP.out.keep (fun q hq=>(hx q (by have:=ag.out _ hq;have:=ae.size;omega) (by have:=ag.out _ hq;omega)).trans ((ae.trans ((ZX wr _).mono ae.size)).cell (ag.out _ hq))) (fun k hk=>⟨by rw[aH];have:=ag.out _ hk;have:=ae.size;omega,.inl hk⟩),az.keep (fun q hq=>hx q ?_ ?_) (fun k hk=>?_),?_⟩
 ·rcases hq with (hq|hq)|hq
  ·have:=ag.out _ hq;have:=ae.size;omega
  ·have:=hq.2.1;omega
  omega
 ·rcases hq with (hq|hq)|hq
  ·have:=ag.out _ hq;omega
  ·exact hq.2.2
  omega
 ·rw[aH];rcases hk with (hq|hq)|hq
  ·exact⟨by have:=ag.out _ hq;have:=ae.size;omega,.inl hq⟩
  ·exact⟨by have:=hq.2.1;omega,.inr hq.1⟩
  exact⟨by omega,.inr (by omega)⟩
 exact(ae.trans ((ZX wr _).mono ae.size)).trans (av.out.1.below (by simp;omega) (fun k e=>by rw[e];exact Nat.le_succ _))
def QW (wk:World) (o:Obj) (X:World):Prop:=Below wk.heap.size wk X/\Z5 X wk.heap.size o
theorem X8 {K:Act->World->Prop} {a:Act} {wk:World} {o:Obj} (hk:∀X,Hid (QW wk o X)->K a X):K a (wk.alloc o):=hk _ ⟨ZX wk o,by cases o<;>exact heap_alloc_new wk _⟩
theorem X6 {K:Act->World->Prop} {a:Act} {wk:World} {o:Obj} (hk:∀X,Hid (QW wk o X)->K a X):K a (wk.alloc o).drew:=hk _ ⟨Below.drew (ZX wk o),heap_alloc_new wk _⟩
theorem TG {α:Type} {E:YW α} {X:World} {b:Nat} {T:TypeId} {x:α} {cs:List Value} {S:Nat->Prop} (h:Z5 X b (.cells cs.toArray T)) (hx:E.R X S x cs) (hb:S b):Z8 E X S [x] (.slice (some ⟨b,0,none⟩) 1 1) :=
 ⟨_,_,cs,rfl,QT _,by simp[maxLen],fun _=>⟨b,0,rfl,hb,fun j u hu=>by rw[Nat.zero_add,h.cell j];simpa using hu⟩,ZK.single hx⟩
def QZ (ops:List ZB):Prop:=ops.length<=2/\∀op∈ops,ZT op.nodes<=100000
theorem Vy:UY 49 (.agg #[.int .i64 0,.slice none 0 0,.int .i64 0,.int .i64 0,.slice none 0 0,.int .i64 0,.string ⟨#[]⟩,.string ⟨#[]⟩]) Zb.size 112:=VP
theorem R7 {t:Z9} {p m:List Int} {items:List Z9} {x:ByteArray} (h:TA t p m items x=true):ZW t<=300/\p.length<=60/\m.length<=60/\ZT items<=100/\x.size<=300:=by
 unfold TA at h;simp only[Bool.and_eq_true,decide_eq_true_eq] at h;have h1:=zLw h.1;have h2:=zLw h.2.2.2.1;have h3:ZW (Z6 items)=1+ZT items:=rfl;exact⟨by omega,by omega,by omega,by omega,by omega⟩
