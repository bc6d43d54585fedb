/- T -/
import Derived.Test.YthpngeboknmllaaGreatQ24ea
set_option linter.unusedVariables false
set_option linter.unusedSimpArgs false
set_option maxHeartbeats 16000000
set_option maxRecDepth 100000
namespace Go.Proofs.YthpngeboknmllaaGreat
open Go.RowKit
theorem BS.c {w0 W:World} {F:Nat->Prop} {B:Nat} {x:Array Value} {ops:List ZL} (h:BS w0 W F B x ops):W.cell? ⟨B,23,none⟩=some (.slice none 0 0)/\W.cell? ⟨B,24,none⟩=some (.slice none 0 0)/\W.frozen? ⟨B,23,none⟩=false/\W.frozen? ⟨B,24,none⟩=false:=by
 obtain⟨arr,b,vo,ho,h1,h2,h3,h4,h5,h6,h7,h8,h9⟩:=h.ex;exact⟨(ho.cell 23).trans h7,(ho.cell 24).trans h8,ho.free 23,ho.free 24⟩
theorem BS.blt {w0 W:World} {F:Nat->Prop} {B:Nat} {x:Array Value} {ops:List ZL} (h:BS w0 W F B x ops):B<W.heap.size:=by
 obtain⟨arr,b,vo,ho,_⟩:=h.ex;exact ho.lt
theorem Q5 {w0 W:World} {F:Nat->Prop} {B:Nat} {x:Array Value} {ops:List ZL} (h:BS w0 W F B x ops) {ap am:List Int} {vp vm:Value} (hp:Z0 W (fun k=>B<k/\k<W.heap.size) ap vp) (hm:Z0 W (fun k=>B<k/\k<W.heap.size) am vm):BA w0 ((W.setCell ⟨B,23,none⟩ vp).setCell ⟨B,24,none⟩ vm) B x ops ap am:=by
 obtain⟨arr,b,vo,ho,hz,h6,ag,aa,af,hb,h23,h24,hF⟩:=h.ex;have ae:=h.lo B (hF B (.inl rfl));have hk:ZY (fun k=>k=B) W ((W.setCell ⟨B,23,none⟩ vp).setCell ⟨B,24,none⟩ vm):=(ZY.set W ⟨B,23,none⟩ vp).trans' (ZY.set _ ⟨B,24,none⟩ vm);refine⟨h.below.trans (hk.below h.below.size (fun k e=>by rw[e];exact ae)),ae,_,vo,vp,vm,(ho.set (i:=23) vp).set (i:=24) vm,by simpa using hz,fun j hj=>?_,?_,?_,?_,R4 hk (aa.rows.keep (fun _ _=>rfl) (fun k hk=>⟨Qk af hk.1,hk.2⟩)),R4 hk hp,R4 hk hm⟩
 ·rw[Array.getElem?_setIfInBounds_ne (by omega),Array.getElem?_setIfInBounds_ne (by omega)];exact h6 j hj
 ·rw[Array.getElem?_setIfInBounds_ne (by decide),Array.getElem?_setIfInBounds_ne (by decide)];exact ag
 ·rw[Array.getElem?_setIfInBounds_ne (by decide),Array.getElem?_setIfInBounds_self_of_lt (by omega)]
 rw[Array.getElem?_setIfInBounds_self_of_lt (by simp;omega)]
theorem Uq (t:Z9) (p m:List Int) (text:ByteArray) (A Ap Am:Option Addr) (cap cp cm:Nat) (w:World) (hv:Z8 Z6 w (Lt w.heap.size) t.kids (.slice A t.kids.length cap)) (aW:Zk t) (bP:ZR t<=900000) (hp:Z0 w (Lt w.heap.size) p (.slice Ap p.length cp)) (hm:Z0 w (Lt w.heap.size) m (.slice Am m.length cm)) (aU:p.length<=90000) (aZ:m.length<=90000) (hx:text.size<=maxLen) :
  Calls Tryz.prog 26 #[.agg #[.int .i64 t.kind,.string t.text,.int .i64 t.cols,.slice A t.kids.length cap],.agg #[.slice Ap p.length cp,.slice Am m.length cm],.string text] w (ZC w (X7 t p m text)):=by
 obtain⟨W0,aG⟩:∃W0,((w.alloc (.cells #[.int .i64 t.kind,.string t.text,.int .i64 t.cols,.slice A t.kids.length cap] 24)).alloc (.cells #[.slice Ap p.length cp,.slice Am m.length cm] 27)).alloc (.cells #[.slice none 0 0,.slice none 0 0,.slice none 0 0,.slice none 0 0,.slice none 0 0] 35)=W0:=⟨_,rfl⟩;have bU:Below w.heap.size w W0:=by rw[<-aG];exact Zy (Zy (ZW _ _) _) _
 have aY:Z5 W0 w.heap.size (.cells #[.int .i64 t.kind,.string t.text,.int .i64 t.cols,.slice A t.kids.length cap] 24):=by rw[<-aG];exact((Z5.at0 _ _).al _).al _
 have ak:Z5 W0 (w.heap.size+1) (.cells #[.slice Ap p.length cp,.slice Am m.length cm] 27):=by rw[<-aG];exact(Z5.at1 _ _ _).al _
 have bu:=hid aY;have ay:=hid ak;have cO:Hid (Z5 W0 (w.heap.size+1+1) (.cells #[.slice none 0 0,.slice none 0 0,.slice none 0 0,.slice none 0 0,.slice none 0 0] 35)):=by show Z5 _ _ _;rw[<-aG];exact Z5.at2 _ _ _ _
 have aT:=hid bU;have bD:Hid (∀W,Z5 W w.heap.size (.cells #[.int .i64 t.kind,.string t.text,.int .i64 t.cols,.slice A t.kids.length cap] 24)->Z5 W (w.heap.size+1) (.cells #[.slice Ap p.length cp,.slice Am m.length cm] 27)->W.cell? ⟨w.heap.size,0,none⟩=some (.int .i64 t.kind)/\W.cell? ⟨w.heap.size,1,none⟩=some (.string t.text)/\W.cell? ⟨w.heap.size,2,none⟩=some (.int .i64 t.cols)/\W.cell? ⟨w.heap.size,3,none⟩=some (.slice A t.kids.length cap)/\W.cell? ⟨w.heap.size+1,0,none⟩=some (.slice Ap p.length cp)/\W.cell? ⟨w.heap.size+1,1,none⟩=some (.slice Am m.length cm)):=fun W h1 h2=>⟨h1.cell 0,h1.cell 1,h1.cell 2,h1.cell 3,h2.cell 0,h2.cell 1⟩
 have CL:Hid (∀W,Below w.heap.size w W->Calls Tryz.prog 42 #[.agg #[.int .i64 t.kind,.string t.text,.int .i64 t.cols,.slice A t.kids.length cap],.agg #[.slice Ap p.length cp,.slice Am m.length cm]] W _):=fun W hW=>QB t p m A Ap Am cap cp cm W (hv.below hW hW.size) aW bP (hp.below hW hW.size) (hm.below hW hW.size) aU aZ
 have HE:=hid (zTc t p m text);have aL:=hid (Qh aW (Qh (Qh hp (Qh hm (Qh aU aZ))) hx));obtain⟨aa,aH⟩:∃aa,X7 t p m text=aa:=⟨_,rfl⟩;rw[aH] at HE ⊢;obtain⟨m0,m1,m2,m3,n0,n1⟩:=bD.out W0 aY ak;clear hv aW bP hp hm aU aZ bU aY ak aH hx;go_enter Tryz.func26,Tryz.ntmps26
 go_wp2_with fail
 refine(CL.out _ aT.out).mono ?_;rintro e w1 ⟨aD,h1⟩;have HG:=hid (cO.out.below aD);have bu:=hid (bu.out.below aD);have ay:=hid (ay.out.below aD);have aA:=hid (aT.out.trans (aD.mono aT.out.size));clear aD m0 m1 m2 m3 n0 n1 CL aT aG cO;rcases h1 with ⟨he,rfl⟩|⟨he,rr,Ar,cr,ra,rb,q,A1,o,its,Ai,ci,ar,q2,A2,c2,i,s,it,A3,c3,rfl,az⟩
 ·have HR:=hid (HE.out.1 he);have hse:((ZK t p m).2 != 0)=true:=by simp[he]
  clear HE he;generalize (ZK t p m).2=se at *
  go_upto_region 2 with (first
   |(refine wpList_store_row rfl 69 (.tmp 8) (.tmp 16) rfl w1.heap.size _ rfl rfl 69 _ (Z5.at0 _ _) (by kernel_rfl) (by simp) (by simp[Value.oneCell']) ?_)
   |fail)
  generalize hX:World.setRow _ _ _=X;have dX:Hid (Below w.heap.size w X):=by show Below _ _ _;rw[<-hX];exact Y6 (aA.out.trans ((ZW w1 _).mono aA.out.size)) aA.out.size _
  have HG:Hid (Z5 X (w.heap.size+1+1) (.cells #[.slice none 0 0,.slice none 0 0,.slice none 0 0,.slice none 0 0,.slice none 0 0] 35)):=by show Z5 _ _ _;rw[<-hX];exact(setRow_other _ _ _ _ (Nat.ne_of_lt HG.out.lt)).trans (HG.out.al _)
  clear hX
  go_wp2_with (first
   |(refine wpList_store_row rfl 35 (.tmp 6) (.tmp 20) rfl (w.heap.size+1+1) _ rfl rfl 35 _ HG.out (by kernel_rfl) (by simp) (by simp[Value.oneCell']) ?_)
   |fail)
  refine bodyPost_ret (v:=.tuple #[.agg #[.slice none 0 0,.slice none 0 0,.slice none 0 0,.slice none 0 0,.slice none 0 0],.int .i64 se]) (Y1 Tryz.results26 _ _ _ (w.heap.size+1+1) 35 _ (0,0) _ rfl (HG.out.row _) rfl Tryz.underlying35 (by kernel_rfl) _ rfl) rfl ?_;rw[HR.out];exact XI se (Y6 dX.out (by omega) _)
 have aX:=az.of;have aV:=az.pe;have bg:=az.ie;simp only at aX aV bg;have HR:=hid (HE.out.2 rr ra rb q o its aX aV bg);simp only[Vy];clear HE he aX aV bg
 go_upto_region 2 with (first
  |(refine wpList_store_row rfl 69 (.tmp 8) (.tmp 16) rfl w1.heap.size _ rfl rfl 69 _ (Z5.at0 _ _) (by kernel_rfl) (by simp) (by simp[Value.oneCell']) ?_)
  |fail)
 generalize hX:World.setRow _ _ _=X;have aC:Below w1.heap.size w1 X:=by rw[<-hX];exact Y6 (ZW w1 _) (Qi _) _
 have ah:Hid (Z5 X w1.heap.size (.cells #[.int .i64 t.kind,.string t.text,.int .i64 t.cols,.slice A t.kids.length cap,.slice Ap p.length cp,.slice Am m.length cm,.slice Ar rr.length cr,.int .i64 ra,.int .i64 rb,.slice A1 q.length cp,.int .i64 o,.slice Ai its.length ci,.bool ar,.slice A2 q2.length c2,.int .i64 i,.int .i64 s,.int .i64 it.kind,.string it.text,.int .i64 it.cols,.slice A3 it.kids.length c3] 69)):=by show Z5 _ _ _;rw[<-hX];exact(Z5.at0 w1 _).row _
 have di:=HG;have HG:=hid (HG.out.below aC);have ay:=hid (ay.out.below aC);have ae:=hid (aA.out.trans (aC.mono aA.out.size));have aR:=hid (az.bl aC);have hf:=Tz az;simp only at hf;have HF:=hid hf;have dh:Hid (w1.heap.size≠w.heap.size+1+1):=fun e=>Nat.lt_irrefl _ (e ▸ di.out.lt)
 obtain⟨gs,bN⟩:∃gs,w1.heap.size=gs:=⟨_,rfl⟩;simp only[bN] at ah dh ⊢;clear hX aC az bN aA hf bu di;have s4:X.cell? ⟨gs,10,none⟩=some (.int .i64 o):=ah.out.cell 10;have s5:X.cell? ⟨gs,11,none⟩=some (.slice Ai its.length ci):=ah.out.cell 11;by_cases bJ:o=0
 ·have dP:Hid (aa=(ZB,8)):=HR.out.1 bJ;clear HR;subst bJ
  go_wp2_with (first
   |(refine wpList_store_row rfl 35 (.tmp 6) (.tmp 25) rfl (w.heap.size+1+1) _ rfl rfl 35 _ HG.out (by kernel_rfl) (by simp) (by simp[Value.oneCell']) ?_)
   |fail)
  refine bodyPost_ret (v:=.tuple #[.agg #[.slice none 0 0,.slice none 0 0,.slice none 0 0,.slice none 0 0,.slice none 0 0],.int .i64 8]) (Y1 Tryz.results26 _ _ _ (w.heap.size+1+1) 35 _ (0,0) _ rfl (HG.out.row _) rfl Tryz.underlying35 (by kernel_rfl) _ rfl) rfl ?_;rw[dP.out];exact XI 8 (Y6 ae.out (by omega) _)
 obtain⟨k,rfl⟩:∃k:Nat,o=(k:Int)+1:=⟨(o-1).toNat,by have:=HF.out;omega⟩;have hk:k<its.length:=by have:=HF.out;omega
 have HR:=hid (HR.out.2 k hk rfl);have aS:=hid (show q.length<=90000/\k<=1000 from by have:=HF.out;exact⟨by omega,by omega⟩);have HQ:=hid aR.out.q;have dV:Hid (∀w0 W B ops pos am,Below X.heap.size X W->BA w0 W B #[.int .i64 t.kind,.string t.text,.int .i64 t.cols,.slice A t.kids.length cap,.slice Ap p.length cp,.slice Am m.length cm,.slice Ar rr.length cr,.int .i64 ra,.int .i64 rb,.slice A1 q.length cp,.int .i64 ((k:Int)+1),.slice Ai its.length ci,.bool ar,.slice A2 q2.length c2,.int .i64 i,.int .i64 s,.int .i64 it.kind,.string it.text,.int .i64 it.cols,.slice A3 it.kids.length c3] ops pos am->ops.length<=1000->Calls Tryz.prog 48 #[.pointer (some ⟨B,0,none⟩)] W (ZC w0 (YE t p m ops pos am))):=fun w0 W B ops pos am hW hb hl=>RD aR.out hW hb hl
 obtain⟨_,_,rs,hq,hic,him,bH,bM⟩:=aR.out.its;cases hq;obtain⟨gx,ox,Bx,bx,rs2,rfl,dH,x0,x1,x2,x3,_,_,bG,dD,dC,dE,dG⟩:=YW bH bM hk;have cK:=hid bG;have i0:(0:Int)<=(k:Int):=by omega
 have i1:(k:Int)<(its.length:Int):=by omega
 have i2:((k:Int)+1==0)=false:=by rw[beq_eq_false_iff_ne];omega
 have v1:IntKind.i64.wrap ((k:Int)+1-1)=(k:Int):=by rw[show (k:Int)+1-1=(k:Int) by omega];exact IntWalk.i64_in _ (by have:=aS.out;omega)
 have v2:IntKind.i64.wrap (k:Int)=(k:Int):=IntWalk.i64_in _ (by have:=aS.out;omega);clear bH bM dE dG dD dC HF aR bG dH;generalize its[k]=dB at *;obtain⟨k9,x9,c9,l9⟩:=dB;simp only[Z9.kind,Z9.text,Z9.cols,Z9.kids] at HR x0 x1 x2 x3 cK
 go_upto_region 7 with fail
 generalize hY:World.alloc X _=Y;have aB:Below X.heap.size X Y:=by rw[<-hY];exact ZW _ _
 have aP:Z5 Y X.heap.size (.cells #[.int .i64 k9,.string x9,.int .i64 c9,.slice Bx l9.length bx] 24):=by rw[<-hY];exact Z5.at0 _ _
 have df:=hid aP;have af:=hid aB;have dU:=HG;have HG:=hid (HG.out.below aB);have ay:=hid (ay.out.below aB);have ah:=hid (ah.out.below aB);have bz:Hid (gs≠w.heap.size+1+1):=dh;have cZ:Hid (X.heap.size≠w.heap.size+1+1):=fun e=>Nat.lt_irrefl _ (e ▸ dU.out.lt)
 obtain⟨gi,bn⟩:∃gi,X.heap.size=gi:=⟨_,rfl⟩;have y0:Y.cell? ⟨gi,0,none⟩=some (.int .i64 k9):=by rw[<-bn];exact aP.cell 0
 have y1:Y.cell? ⟨gi,1,none⟩=some (.string x9):=by rw[<-bn];exact aP.cell 1
 simp only[bn] at df cZ ⊢;clear hY aB aP s4 s5 x0 x1 x2 x3 i0 i1 i2;by_cases ag:XR k9=true;rotate_left
 ·have HR:=hid (HR.out.2 (fun h=>ag h.1));have dF:k9≠2/\k9≠3/\k9≠4/\k9≠10/\k9≠11:=by
   unfold XR at ag;simp only[decide_eq_true_eq] at ag;omega
  obtain⟨h2,h3,h4,bY,bW⟩:=dF;have b2:(k9==2)=false:=by rw[beq_eq_false_iff_ne];exact h2
  have b3:(k9==3)=false:=by rw[beq_eq_false_iff_ne];exact h3
  have b4:(k9==4)=false:=by rw[beq_eq_false_iff_ne];exact h4
  have b10:(k9==10)=false:=by rw[beq_eq_false_iff_ne];exact bY
  have b11:(k9==11)=false:=by rw[beq_eq_false_iff_ne];exact bW
  have aK:=hid (ae.out.trans (af.out.mono ae.out.size));clear ag h2 h3 h4 bY bW
  go_wp2_with (first
   |(refine wpList_store_row rfl 35 (.tmp 6) (.tmp 35) rfl (w.heap.size+1+1) _ rfl rfl 35 _ HG.out (by kernel_rfl) (by simp) (by simp[Value.oneCell']) ?_)
   |fail)
  refine bodyPost_ret (v:=.tuple #[.agg #[.slice none 0 0,.slice none 0 0,.slice none 0 0,.slice none 0 0,.slice none 0 0],.int .i64 7]) (Y1 Tryz.results26 _ _ _ (w.heap.size+1+1) 35 _ (0,0) _ rfl (HG.out.row _) rfl Tryz.underlying35 (by kernel_rfl) _ rfl) rfl ?_;rw[HR.out];exact XI 7 (Y6 aK.out (by omega) _)
 have aF:k9=2\/k9=3\/k9=4\/k9=10\/k9=11:=by unfold XR at ag;simpa using ag
 have bA:=hid ag;clear ag;obtain⟨bt,aQ⟩:∃bt,(x9.toList==text.toList)=bt:=⟨_,rfl⟩;cases bt
 case true =>
  have he:x9=text:=QM.1 (by simpa using aQ);have dQ:Hid (aa=(ZB,7)):=HR.out.2 (fun h=>h.2 he);have aK:=hid (ae.out.trans (af.out.mono ae.out.size));clear he bA HR;rcases aF with rfl|rfl|rfl|rfl|rfl
  all_goals
   go_wp2_with (first
    |(refine wpList_store_row rfl 35 (.tmp 6) (.tmp 46) rfl (w.heap.size+1+1) _ rfl rfl 35 _ HG.out (by kernel_rfl) (by simp) (by simp[Value.oneCell']) ?_)
    |fail)
   refine bodyPost_ret (v:=.tuple #[.agg #[.slice none 0 0,.slice none 0 0,.slice none 0 0,.slice none 0 0,.slice none 0 0],.int .i64 7]) (Y1 Tryz.results26 _ _ _ (w.heap.size+1+1) 35 _ (0,0) _ rfl (HG.out.row _) rfl Tryz.underlying35 (by kernel_rfl) _ rfl) rfl ?_;rw[dQ.out];exact XI 7 (Y6 aK.out (by omega) _)
 have bK:¬x9=text:=fun e=>by rw[e] at aQ;simp at aQ
 have dO:Hid (aa=YE t p m [Wl q (k:Int) x9 text] p m):=HR.out.1 ⟨bA.out,bK⟩;clear bK HR bA;rcases aF with rfl|rfl|rfl|rfl|rfl
 all_goals
  go_upto_region 16 with fail
  clear aQ y0 y1;have HW:Hid (Below X.heap.size X Y):=af;have hky:ZY (fun k=>k=w.heap.size+1+1) Y Y:=ZY.of_below (Qg _ _) _;refine wp_region_noPanic ?_;refine wp_region_held_drew (S:=fun w'=>ZY (fun k=>k=w.heap.size+1+1) Y w') (by kernel_rfl) (ZY.of_below (Qg Y.heap.size Y).drew _) (fun hHeld=>?_);refine wpAnyH_take (i:=0) (oi:=⟨some 47,_,_,_,_,_⟩) (v:=_) rfl (by kernel_rfl) (by kernel_rfl) (by kernel_rfl) (fun _ _ _ h=>h) (Xh 69 (.tmp 8) rfl (by rfl) _ rfl (fun w hS=>hS.obj ah.out bz.out) Tryz.underlying69 (by kernel_rfl)) hHeld ?_
  try simp only[qP,qN,qS,qZ,qC]
  refine wpAnyH_take (i:=2) (oi:=⟨some 49,_,_,_,_,_⟩) (v:=_) rfl (by kernel_rfl) (by kernel_rfl) (by kernel_rfl) (fun _ _ _ h=>h) (Or.inl ⟨by rfl,fun W hS=>by clear hS;go_simp;try with_reducible rfl⟩) hHeld ?_
  try simp only[qP,qN,qS,qZ,qC]
  refine wpAnyH_take (i:=3) (oi:=⟨some 50,_,_,_,_,_⟩) (v:=_) rfl (by kernel_rfl) (by kernel_rfl) (by kernel_rfl) (fun _ _ _ h=>h) (Or.inl ⟨by rfl,fun W hS=>by have h:W.cell? ⟨gs,9,none⟩=some (.slice A1 q.length cp):=(hS.obj ah.out bz.out).cell 9;clear hS;go_simp;try with_reducible rfl⟩) hHeld ?_
  try simp only[qP,qN,qS,qZ,qC]
  refine wpAnyH_take (i:=4) (oi:=⟨some 51,_,_,_,_,_⟩) (v:=_) rfl (by kernel_rfl) (by kernel_rfl) (by kernel_rfl) (fun _ _ _ h=>h) (Or.inl ⟨by rfl,fun W hS=>by clear hS;go_simp;try with_reducible rfl⟩) hHeld ?_
  try simp only[qP,qN,qS,qZ,qC]
  refine wpAnyH_take (i:=5) (oi:=⟨some 52,_,_,_,_,_⟩) (v:=_) rfl (by kernel_rfl) (by kernel_rfl) (by kernel_rfl) (fun _ _ _ h=>h) (Or.inl ⟨by rfl,fun W hS=>by have h:W.cell? ⟨gs,10,none⟩=some (.int .i64 ((k:Int)+1)):=(hS.obj ah.out bz.out).cell 10;clear hS;go_simp;try with_reducible rfl⟩) hHeld ?_
  try simp only[qP,qN,qS,qZ,qC]
  refine wpAnyH_take (i:=6) (oi:=⟨some 53,_,_,_,_,_⟩) (v:=_) rfl (by kernel_rfl) (by kernel_rfl) (by kernel_rfl) (fun _ _ _ h=>h) (Or.inl ⟨by rfl,fun W hS=>by clear hS;go_simp;try with_reducible rfl⟩) hHeld ?_
  try simp only[qP,qN,qS,qZ,qC]
  refine wpAnyH_take (i:=7) (oi:=⟨some 54,_,_,_,_,_⟩) (v:=_) rfl (by kernel_rfl) (by kernel_rfl) (by kernel_rfl) (fun _ _ _ h=>h) (Or.inl ⟨by rfl,fun W hS=>by clear hS;go_simp;try with_reducible rfl⟩) hHeld ?_
  try simp only[qP,qN,qS,qZ,qC]
  refine wpAnyH_take (i:=8) (oi:=⟨some 55,_,_,_,_,_⟩) (v:=_) rfl (by kernel_rfl) (by kernel_rfl) (by kernel_rfl) (fun _ _ _ h=>h) (Or.inl ⟨by rfl,fun W hS=>by have h:W.cell? ⟨gi,1,none⟩=some (.string x9):=(hS.obj df.out cZ.out).cell 1;clear hS;go_simp;try with_reducible rfl⟩) hHeld ?_
  try simp only[qP,qN,qS,qZ,qC]
  refine wpAnyH_take (i:=9) (oi:=⟨some 56,_,_,_,_,_⟩) (v:=_) rfl (by kernel_rfl) (by kernel_rfl) (by kernel_rfl) (fun _ _ _ h=>h) (Or.inl ⟨by rfl,fun W hS=>by clear hS;go_simp;try with_reducible rfl⟩) hHeld ?_
  try simp only[qP,qN,qS,qZ,qC]
  refine wpAnyH_take (i:=10) (oi:=⟨some 57,_,_,_,_,_⟩) (v:=_) rfl (by kernel_rfl) (by kernel_rfl) (by kernel_rfl) (fun _ _ _ h=>h) (Or.inl ⟨by rfl,fun W hS=>by clear hS;go_simp;try with_reducible rfl⟩) hHeld ?_
  try simp only[qP,qN,qS,qZ,qC]
  refine wpAnyH_ready (rs:=[1]) (by kernel_rfl) (by simp) ?_;refine(AllReadyH.cons (o:=⟨some 48,_,_,_,_,_⟩) rfl (fun K hK=>?_) AllReadyH.nil);go_simp;refine Calls.mono (Wx _ _ _ _ _ _ _ _ _ _ _ _ _ _ _ _ _ _ _ _ Y _ (bwt (Qg Y.heap.size Y))) ?_;rintro e wk ⟨B,F,rfl,au,_⟩;have HB:=hid au;have ax:=hid au.below;clear au;refine hK.out _ _ ((ZY.of_below ax.out _)) (fun hHeld=>?_);clear hK K
  try simp only[qP,qN,qS,qZ,qC]
  refine wpAnyH_ready (rs:=[11]) (by kernel_rfl) (by simp) ?_;refine(AllReadyH.cons (o:=⟨some 58,_,_,_,_,_⟩) rfl (fun K hK=>?_) AllReadyH.nil);go_simp;refine Calls.mono (XO (HB.out.bl bw) (Wl q (k:Int) x9 text) A1 none cp 0 (by simp) (HQ.out.below (af.out.trans (ax.out.mono af.out.size)) (af.out.trans (ax.out.mono af.out.size)).size) (Z8.nil_ 0 (Qj _) none) (Qf aS.out.1 (by decide)) (by simp[Wl,ZQ]) (by simp[Wl,Z4]) (YU (by have:=aS.out;simp only[Wl];omega)) (by simp[Wl,Z4]) (by simp[Wl,Z4]) cK.out aL.out.2.2) ?_;rintro e wk ⟨F2,rfl,au,_⟩;have HB:Hid (BS Y wk F2 B _ [Wl q (k:Int) x9 text]):=hid au;have ax:=hid au.below;clear au;refine hK.out _ _ ((ZY.of_below ax.out _)) (fun hHeld=>?_);clear hK K
  try simp only[qP,qN,qS,qZ,qC]
  refine wpAnyH_take (i:=12) (oi:=⟨some 11,_,_,_,_,_⟩) (v:=_) rfl (by kernel_rfl) (by kernel_rfl) (by kernel_rfl) (fun _ _ _ h=>h) (Or.inl ⟨by rfl,fun W hS=>by clear hS;go_simp;try with_reducible rfl⟩) hHeld ?_
  try simp only[qP,qN,qS,qZ,qC]
  refine wpAnyH_done (by kernel_rfl) ?_ _;refine NoPanic.normal ?_;have aO:Below X.heap.size X wk:=af.out.trans (ax.out.mono af.out.size);have ak:=ay.out.below ax.out;have dJ:=HB.out.blt;have dm:=hid (zNb p m Ap Am cp cm wk (aL.out.2.1.1.below (ae.out.trans (aO.mono ae.out.size)) (ae.out.trans (aO.mono ae.out.size)).size) (aL.out.2.1.2.1.below (ae.out.trans (aO.mono ae.out.size)) (ae.out.trans (aO.mono ae.out.size)).size) (Qf aL.out.2.1.2.2.1 (by decide)) (Qf aL.out.2.1.2.2.2 (by decide)));have n0:=ak.cell 0;have n1:=ak.cell 1;simp only[List.getElem?_toArray,List.getElem?_cons_zero,List.getElem?_cons_succ] at n0 n1;clear ak
  go_wp2_with fail
  refine dm.out.mono ?_;rintro e wd ⟨dY,dM,dZ,dN,rfl,bI,bL,bR⟩;have HB:=hid (HB.out.bl bR);have av:B<wk.heap.size:=dJ;have dR:Hid (Z0 wd (fun k=>B<k/\k<wd.heap.size) p (.slice dY p.length dM)):=bI.keep (fun _ _=>rfl) (fun k hk=>⟨Qk av hk.1,hk.2⟩);have dS:Hid (Z0 wd (fun k=>B<k/\k<wd.heap.size) m (.slice dZ m.length dN)):=bL.keep (fun _ _=>rfl) (fun k hk=>⟨Qk av hk.1,hk.2⟩);have dI:=HB.out.c;obtain⟨dA,dz,dL,dK⟩:=dI;have bC:=hid (Q5 HB.out dR.out dS.out);clear bI bL bR n0 n1 av dm
  go_upto_region 18 with fail
  generalize hZ:World.setCell _ _ _=Z;rw[hZ] at bC;clear dA dz dL dK
  go_wp2_with (first
   |(go_at_call 48;refine Calls.mono (dV.out _ _ _ _ _ _ (af.out.trans (bC.out.below.mono af.out.size)) bC.out (by simp)) ?_;rintro e wz aj;rw[<-dO.out] at aj;have bq:=hid aj;obtain⟨dw,cu,dn,bZ,dx,cB,aM,aI,aN,aJ,rfl,_,_,_,_,_,bQ⟩:=aj;have bB:=hid (HG.out.below bQ);clear bQ)
   |(refine wpList_store_row rfl 35 (.tmp 6) (.tmp 67) rfl (w.heap.size+1+1) #[.slice dw aa.1.ops.length cu,.slice dn aa.1.bp.length bZ,.slice dx aa.1.bm.length cB,.slice aM aa.1.ap.length aI,.slice aN aa.1.am.length aJ] rfl rfl 35 _ bB.out (by kernel_rfl) (by simp) (by simp[Value.oneCell']) ?_)
   |fail)
  have aK:=hid (ae.out.trans (af.out.mono ae.out.size));refine bodyPost_ret (v:=.tuple #[.agg #[.slice dw aa.1.ops.length cu,.slice dn aa.1.bp.length bZ,.slice dx aa.1.bm.length cB,.slice aM aa.1.ap.length aI,.slice aN aa.1.am.length aJ],.int .i64 aa.2]) (Y1 Tryz.results26 _ _ _ (w.heap.size+1+1) 35 _ (0,0) _ rfl (bB.out.row _) rfl Tryz.underlying35 (by kernel_rfl) _ rfl) rfl ?_;exact ZC.put (arr:=#[]) bq.out bB.out (ZY.setRow _ _ _) (size_setRow _ _ _) aK.out (by omega)
