/- T -/
import Derived.Test.YthpngeboknmllaaGreatQ8237
import Derived.Test.YthpngeboknmllaaGreatQ474e
import Derived.Test.YthpngeboknmllaaGreatQ12ff
set_option linter.unusedVariables false
set_option linter.unusedSimpArgs false
set_option maxHeartbeats 16000000
set_option maxRecDepth 100000
namespace Go.Proofs.YthpngeboknmllaaGreat
open Go.RowKit
theorem zVl (t:Z9) (p m:List Int) (columns:Bool) (A Ap Am:Option Addr) (cap cp cm:Nat) (w:World) (hv:Z8 Z7 w (Lt w.heap.size) t.kids (.slice A t.kids.length cap)) (iq:Zt t) (iK:ZW t<=900000) (hp:Z0 w (Lt w.heap.size) p (.slice Ap p.length cp)) (hm:Z0 w (Lt w.heap.size) m (.slice Am m.length cm)) (il:p.length<=90000) (iy:m.length<=90000) :
  Calls Tryz.prog 27 #[.agg #[.int .i64 t.kind,.string t.text,.int .i64 t.cols,.slice A t.kids.length cap],.agg #[.slice Ap p.length cp,.slice Am m.length cm],.bool columns] w (Zg w (Xe t p m columns)):=by
 obtain⟨W0,jm,iM,fe,eZ,iX⟩:=Ty t p m A Ap Am cap cp cm w;have jD:=hid fe;have jC:=hid eZ;have eu:=hid iM;have gF:=hid (RV t p m A Ap Am cap cp cm w);have CL:Hid (∀W,Below w.heap.size w W->Calls Tryz.prog 42 #[.agg #[.int .i64 t.kind,.string t.text,.int .i64 t.cols,.slice A t.kids.length cap],.agg #[.slice Ap p.length cp,.slice Am m.length cm]] W _):=fun W hW=>zSh t p m A Ap Am cap cp cm W (hv.below hW hW.size) iq iK (hp.below hW hW.size) (hm.below hW hW.size) il iy
 have HE:=hid (zS3 t p m columns);obtain⟨aH,dm⟩:∃aH,Xe t p m columns=aH:=⟨_,rfl⟩;rw[dm] at HE ⊢;obtain⟨m0,m1,m2,m3,n0,n1⟩:=gF.out W0 fe eZ;clear hv iq iK hp hm il iy iM fe eZ dm;go_enter Tryz.func27,Tryz.ntmps27
 go_wp2_with fail
 refine(CL.out _ eu.out).mono ?_;rintro e w1 ⟨bi,h1⟩;have HG:=hid (iX.out.below bi);have aS:=hid (eu.out.trans (bi.mono eu.out.size));clear bi m0 m1 m2 m3 n0 n1 CL eu jm iX jD jC;rcases h1 with ⟨he,rfl⟩|⟨he,rr,Ar,cr,ra,rb,q,A1,o,its,Ai,ci,ar,q2,A2,c2,i,s,it,A3,c3,rfl,ae⟩
 ·have HR:=hid (HE.out.1 he);have hse:((ZI t p m).2 != 0)=true:=by simp[he]
  clear HE he;generalize (ZI t p m).2=se at *
  go_upto_region 2 with (first
   |(refine sR 69 8 24 (Z5.at0 _ _) ?_)
   |fail)
  generalize hX:World.setRow _ _ _=X;have ek:=hid (Te hX aS.out);have HG:=hid (Td hX HG.out);clear hX
  go_wp2_with (first
   |(refine sR 35 6 28 HG.out ?_)
   |fail)
  refine Yr Tryz.results27 Tryz.underlying35 (.int .i64 se) (HG.out.row _) ?_;rw[HR.out];exact Uy se (YV ek.out (by omega) _)
 have aT:=ae.of;have eY:=ae.pe;simp only at aT eY;have iw:(ZI t p m).2=0:=by rw[aT]
 have eD:=hid ae.ar0;have eB:=hid ae.ar1;simp only at eD eB;have fO:=hid (HE.out.2.1 iw);have fK:=hid (fun a b c d=>HE.out.2.2 rr ra rb a b c d o aT);have fQ:=hid eY;simp only[UB];clear HE he iw aT eY
 go_upto_region 2 with (first
  |(refine sR 69 8 24 (Z5.at0 _ _) ?_)
  |fail)
 generalize hX:World.setRow _ _ _=X;have aJ:=YL hX;have ah:=hid (XK hX);have iY:Hid (w1.heap.size≠w.heap.size+1+1):=fun e=>Nat.lt_irrefl _ (e ▸ HG.out.lt)
 have HG:=hid (HG.out.below aJ);have bQ:=hid (aS.out.trans (aJ.mono aS.out.size));have dQ:=hid (ae.bl aJ);have hf:=RI ae;simp only at hf;have HF:=hid hf;obtain⟨gs,iH⟩:∃gs,w1.heap.size=gs:=⟨_,rfl⟩;simp only[iH] at ah iY ⊢;clear hX aJ ae iH aS hf;cases ar
 case false =>
  have HR:=hid (fO.out (eD.out rfl));have gJ:X.cell? ⟨gs,12,none⟩=some (.bool false):=ah.out.cell 12;clear fO fK eD eB
  go_wp2_with (first
   |(refine sR 35 6 33 HG.out ?_)
   |fail)
  refine Yr Tryz.results27 Tryz.underlying35 (.int .i64 8) (HG.out.row _) ?_;rw[HR.out];exact Uy 8 (YV bQ.out (by omega) _)
 case true =>
 have gJ:X.cell? ⟨gs,12,none⟩=some (.bool true):=ah.out.cell 12;have eP:X.cell? ⟨gs,16,none⟩=some (.int .i64 it.kind):=ah.out.cell 16;obtain⟨a1,gL,a3,a4,s',rfl,a6,a7⟩:=eB.out rfl;have dR:=hid (fK.out q2 i s' it a1 (by have h1:=fQ.out;rw[h1,a4]) a6);have fZ:=hid gL;have aX:Hid (q2.length<=60/\0<=i/\i<=1000/\0<=o/\o<=1000/\ZW it<=1000):=by
  have h1:=(zT3 dQ.out).1;have h2:=fQ.out;have:=HF.out;simp only at h1;rw[h2,a4] at h1;simp at h1;exact⟨by omega,(HF.out.2.2.2.2.2.2.2.1 rfl).1,(HF.out.2.2.2.2.2.2.2.1 rfl).2.1,by omega,by omega,a3⟩
 have eX:s'<it.kids.length:=a6;have fP:=hid dQ.out.q2;have dX:=hid dQ.out.it;simp only at fP dX;clear fO fK eD eB HF a1 gL a3 a4 a6 a7 fQ;have aL:Hid (∀W,Below X.heap.size X W->Z5 W gs (.cells #[.int .i64 t.kind,.string t.text,.int .i64 t.cols,.slice A t.kids.length cap,.slice Ap p.length cp,.slice Am m.length cm,.slice Ar rr.length cr,.int .i64 ra,.int .i64 rb,.slice A1 q.length cp,.int .i64 o,.slice Ai its.length ci,.bool true,.slice A2 q2.length c2,.int .i64 i,.int .i64 (s':Int),.int .i64 it.kind,.string it.text,.int .i64 it.cols,.slice A3 it.kids.length c3] 69)):=fun W hW=>ah.out.below hW
 by_cases aG:it.kind=12;rotate_left
 ·have HR:=hid (dR.out.1 aG);have iT:(it.kind != 12)=true:=by simpa using aG
  clear dR aG eX
  go_wp2_with (first
   |(refine sR 35 6 38 HG.out ?_)
   |fail)
  refine Yr Tryz.results27 Tryz.underlying35 (.int .i64 7) (HG.out.row _) ?_;rw[HR.out];exact Uy 7 (YV bQ.out (by omega) _)
 obtain⟨c,iL,c1,iR,fG,c5,hR⟩:=dR.out.2 aG;have iT:(it.kind != 12)=false:=by simpa using aG
 have je:X.cell? ⟨gs,15,none⟩=some (.int .i64 (s':Int)):=ah.out.cell 15;have eO:X.cell? ⟨gs,18,none⟩=some (.int .i64 (c:Int)):=by rw[<-iL];exact ah.out.cell 18
 obtain⟨l9,cB⟩:∃l9,s' / c=l9:=⟨_,rfl⟩;obtain⟨r9,bP⟩:∃r9,s' % c=r9:=⟨_,rfl⟩;have iI:c*l9+r9=s':=by rw[<-cB,<-bP];exact Nat.div_add_mod s' c
 have bW:r9<c:=by rw[<-bP];exact Nat.mod_lt _ (by omega)
 obtain⟨P9,iQ⟩:∃P,c*l9+c=P+1:=⟨c*l9+c-1,by omega⟩;have iC:l9<=256:=by
  have h1:1*l9<=c*l9:=Nat.mul_le_mul_right _ c1;omega
 obtain⟨own,aF⟩:∃own,WO c s' columns=own:=⟨_,rfl⟩;have dU:Hid (own=if columns then c*l9+l9+r9 else s'):=by
  show own=_;rw[<-aF,WO,cB,bP,Nat.mul_add,Nat.mul_one,Nat.mul_comm l9 c]
 have dx:Hid (own<=1000):=by have:=dU.out;show own<=_;cases columns<;>simp at this<;>omega
 obtain⟨c',df⟩:∃c':Int,(if columns then (c:Int)+1 else (c:Int))=c':=⟨_,rfl⟩;obtain⟨ax,aK⟩:∃A9,Zm ZJ c s' columns it.kids=A9:=⟨_,rfl⟩;have aM:Hid (∀k (hk:k<it.kids.length),ax (k+1)=ax k++(it.kids[k]::((if columns=true/\k % c=r9 then [Z6 []] else [])++(if columns=false/\k=P9 then List.replicate c ZJ else [])))):=fun k hk=>by
  rw[<-aK,Zm,VQ,cB,bP,List.getD_eq_getElem?_getD,List.getElem?_eq_getElem hk];rw[show l9*c+c-1=P9 by rw[Nat.mul_comm l9 c];omega];rfl
 have aP:Hid (∀k,k<=256->(ax k).length<=5000):=fun k hk=>by
  rw[<-aK];have h1:=zUe ZJ c s' columns it.kids k;have h2:k*(c+2)<=256*18:=Nat.mul_le_mul hk (by omega);omega
 have bN:Hid (ax 0=[]):=by show _=_;rw[<-aK];rfl
 obtain⟨LK,dO⟩:∃LK,Zm (Z6 []) c s' columns it.kids it.kids.length=LK:=⟨_,rfl⟩;have gq:Hid ((ax it.kids.length).map Wp=LK):=by show _=_;rw[<-aK,<-dO];exact zVs c s' columns it.kids c5 _ (QT _)
 have dB:Hid (ZT LK<=20000):=by
  have h1:=zUf c s' columns it.kids it.kids.length (QT _);rw[dO,List.take_length] at h1;have h2:it.kids.length*(c+1)<=256*17:=Nat.mul_le_mul fG (by omega);have h3:=XG it;have:=aX.out;show ZT LK<=_;omega
 have HR:Hid (aH=XW t p m [⟨2,q2,i,0,[it],0,ZQ,ZQ⟩,⟨1,q2,i,0,[Z9.mk 12 ZQ c' LK],0,ZQ,ZQ⟩] (q2++[i,(own:Int),o]) []):=by
  show aH=_;rw[hR,aF,df,dO];rfl
 have dZ:Hid (c'=(if columns then (c:Int)+1 else (c:Int))/\1<=c'/\c'<=20):=⟨df.symm,by rw[<-df];split<;>omega,by rw[<-df];split<;>omega⟩;clear hR aG iL dR aK dO aF df c5;have z1:((c:Int)==0)=false:=by rw[beq_eq_false_iff_ne];omega
 have z2:¬(c:Int)=0:=by omega
 have t1:(s':Int).tdiv (c:Int)=(l9:Int):=by rw[<-Int.ofNat_tdiv,cB]
 have t2:(s':Int).tmod (c:Int)=(r9:Int):=by rw[<-Int.ofNat_tmod,bP]
 have w9:IntKind.i64.wrap (l9:Int)=(l9:Int):=IntWalk.i64_in _ (by omega);have jc:IntKind.i64.wrap (r9:Int)=(r9:Int):=IntWalk.i64_in _ (by omega);have af:Hid (c*l9+r9=s'/\r9<c/\c*l9+c=P9+1/\l9<=256/\1<=c/\c<=16/\s'<it.kids.length/\it.kids.length<=256):=⟨iI,bW,iQ,iC,c1,iR,eX,fG⟩;clear iI bW iQ iC c1 iR eX fG cB bP
 go_upto_region 9 with fail
 go_quiet (fail)
 have fJ:Hid (Below X.heap.size X (X.drewN nq)):=hid (TM (QQ _ _));have iV:Hid (X.heap.size=(X.drewN nq).heap.size):=hid rfl;clear gJ eP je eO iT t1 t2 w9 jc;generalize X.drewN nq=X2 at *
 go_upto_region 11 with fail
 generalize hY:World.alloc X2 _=Y;obtain⟨fw,aU⟩:Below X.heap.size X Y/\Z5 Y X2.heap.size (.cells #[.int .i64 12,.string ZQ,.int .i64 (c:Int),.slice none 0 0] 24):=by rw[<-hY];exact⟨fJ.out.trans ((ZX _ _).mono fJ.out.size),Z5.at0 _ _⟩
 obtain⟨gl,bz⟩:∃gl,X2.heap.size=gl:=⟨_,rfl⟩;have ai:=hid (iV.out.trans bz);simp only[bz] at aU ⊢;have aj:=hid aU;have fI:=hid fw;have iW:=hid (aL.out _ fw);have jh:Y.cell? ⟨gs,15,none⟩=some (.int .i64 (s':Int)):=iW.out.cell 15;clear hY fw aU bz fJ iV iW
 go_upto_if 54 with fail
 clear jh
 go_cut [14] from 55 to 63 (fun sl wx=>sl=.int .i64 (own:Int)/\Z5 wx gl (.cells #[.int .i64 12,.string ZQ,.int .i64 c',.slice none 0 0] 24)/\ZZ (fun k=>k=gl) Y wx)
 case first =>
  cases columns
  case false =>
   have e1:own=s':=dU.out;have e2:c'=(c:Int):=dZ.out.1;have jH:=hid e1;have gy:=hid e2;clear e1 e2
   go_wp2_with fail
   go_meet;exact⟨by rw[jH.out],by rw[gy.out];exact aj.out,ZZ.of_below (QQ _ _) _⟩
  case true =>
   have e1:own=c*l9+l9+r9:=dU.out;have e2:c'=(c:Int)+1:=dZ.out.1;have y2:Y.cell? ⟨gl,2,none⟩=some (.int .i64 (c:Int)):=aj.out.cell 2;have f2:Y.frozen? ⟨gl,2,none⟩=false:=aj.out.free 2;have v1:IntKind.i64.wrap ((c:Int)+1)=(c:Int)+1:=by have:=af.out;exact IntWalk.i64_in _ (by omega)
   obtain⟨Q9,iP⟩:∃Q,c*l9+l9=Q:=⟨_,rfl⟩;have v2:IntKind.i64.wrap ((l9:Int)*((c:Int)+1))=(Q9:Int):=by
    have e:(l9:Int)*((c:Int)+1)=(Q9:Int):=by rw[<-iP];push_cast;rw[Int.mul_add,Int.mul_one,Int.mul_comm]
    rw[e];have:=af.out;exact IntWalk.i64_in _ (by omega)
   have v3:IntKind.i64.wrap ((Q9:Int)+(r9:Int))=(own:Int):=by
    rw[show (Q9:Int)+(r9:Int)=(own:Int) by omega];have:=dx.out;exact IntWalk.i64_in _ (by omega)
   have gy:=hid e2;clear e1 e2 iP
   go_wp2_with fail
   go_meet;exact⟨rfl,by rw[gy.out];exact aj.out.set (i:=2) _,ZZ.set Y ⟨gl,2,none⟩ _⟩
 case rest =>
 obtain⟨rfl,aU,iD⟩:=hcut;have aj:=hid aU;have ek:Hid (Below X.heap.size X wc):=fI.out.trans (iD.below fI.out.size (fun k e=>by rw[e,<-ai.out];exact QT _));clear aU iD fI;generalize wc=w2 at *;have ah:=hid (ah.out.below ek.out);have eH:w2.cell? ⟨gs,19,none⟩=some (.slice A3 it.kids.length c3):=ah.out.cell 19;have ak:Hid (∀W,Below X.heap.size X W->∀k,Lt X.heap.size k->k<W.heap.size):=fun W hW k hk=>QV hk hW.size
 have dG:Hid (∀k,Lt X.heap.size k->k<gl+1):=fun k hk=>by have h1:k<X.heap.size:=hk;have:=ai.out;omega
 have dY:Hid (∀k,Lt X.heap.size k->k≠gl):=fun k hk=>by have h1:k<X.heap.size:=hk;have:=ai.out;omega
 go_wp2_with fail
 clear eH
 go_loopw [68] (fun j wr=>Below X.heap.size X wr/\∃k:Nat,k<=it.kids.length/\j=.int .i64 k/\∃v,Z5 wr gl (.cells #[.int .i64 12,.string ZQ,.int .i64 c',v] 24)/\ZH wr (gl+1) (Lt X.heap.size) (ax k) v) (fun j _=>it.kids.length-(intOf j).toNat)
 case atStart=>exact⟨ek.out,0,QU _,rfl,.slice none 0 0,aj.out,[],by rw[bN.out];exact World.ownsRow_nil _ _ _ _,by rw[bN.out];simp[ZK]⟩
 obtain⟨hb,k,hk,rfl,v,aU,aF⟩:=hrel;have HB:=hid hb;have aj:=hid aU;have ag:=hid aF;clear hb aU aF;by_cases cu:k<it.kids.length
 ·have au:=hid (aM.out k cu);have gD:=hid (aP.out k (by have:=af.out;omega));obtain⟨_,_,rs,hq,fu,fo,gU,iB⟩:=dX.out;cases hq;obtain⟨g,og,B9,b9,jf,rfl,hg,c0,c1,c2,c3,gM,gK,gN,gQ,gP,gT,iA⟩:=Y5 gU iB cu;have cZ:g<X.heap.size:=hg;have c0:wr.cell? ⟨g,og+k*4,none⟩=_:=(HB.out.cell (p:=⟨g,_,none⟩) cZ).trans c0;have c1:wr.cell? ⟨g,og+k*4+1,none⟩=_:=(HB.out.cell (p:=⟨g,_,none⟩) cZ).trans c1;have c2:wr.cell? ⟨g,og+k*4+2,none⟩=_:=(HB.out.cell (p:=⟨g,_,none⟩) cZ).trans c2;have c3:wr.cell? ⟨g,og+k*4+3,none⟩=_:=(HB.out.cell (p:=⟨g,_,none⟩) cZ).trans c3;have dC:Hid (∀W,Below X.heap.size X W->ZK Z7 W (Lt X.heap.size) [it.kids[k]] [.int .i64 it.kids[k].kind,.string it.kids[k].text,.int .i64 it.kids[k].cols,.slice B9 it.kids[k].kids.length b9]):=fun W hW=>ZK.single (YI.2 ⟨_,rfl,gM,gK,gN,by have h9:Z8 Z7 X (Lt X.heap.size) it.kids[k].kids (.slice B9 it.kids[k].kids.length b9):=⟨_,_,jf,rfl,gQ,gP,gT,iA⟩;exact h9.keep (fun p hp=>hW.cell hp) (fun _ h=>h)⟩)
  have i0:(0:Int)<=(k:Int):=by omega
  have i1:(k:Int)<(it.kids.length:Int):=by omega
  clear gU iB fu fo gQ gP gT iA hg gM gK gN cZ;generalize it.kids[k]=ji at *;obtain⟨xk,xt,xc,xs⟩:=ji;simp only[Z9.kind,Z9.text,Z9.cols,Z9.kids] at c0 c1 c2 c3 dC
  go_upto_region 18 with fail
  generalize iN:World.alloc wr _=W1;obtain⟨bi,aJ⟩:Below wr.heap.size wr W1/\Z5 W1 wr.heap.size (.cells #[.int .i64 xk,.string xt,.int .i64 xc,.slice B9 xs.length b9] 24):=by rw[<-iN];exact⟨ZX _ _,Z5.at0 _ _⟩
  have aS:=hid (HB.out.trans (bi.mono HB.out.size));have bJ:=hid (aj.out.below bi);have fT:=hid (ag.out.below (ak.out _ HB.out) bi);obtain⟨gx,iG⟩:∃gx,wr.heap.size=gx:=⟨_,rfl⟩;simp only[iG] at aJ ⊢;have d0:=aJ.cell 0;have d1:=aJ.cell 1;have d2:=aJ.cell 2;have d3:=aJ.cell 3;simp only[List.getElem?_toArray,List.getElem?_cons_zero,List.getElem?_cons_succ] at d0 d1 d2 d3;have y3:W1.cell? ⟨gl,3,none⟩=some v:=bJ.out.cell 3;clear iN bi aJ iG c0 c1 c2 c3 HB aj ag
  go_upto_region 19 with (first
   |(at_builtin;refine Tv rfl _ _ rfl dG.out rfl (fT.out.below (ak.out _ aS.out) (ZX _ _)) (fun k=>k=W1.heap.size) (some ⟨W1.heap.size,0,none⟩) 1 1 _ rfl rfl (fun _=>⟨W1.heap.size,0,rfl,rfl,fun j u hu=>by rw[Nat.zero_add];exact((Z5.at0 _ _).cell j).trans (by simpa using hu)⟩) (dC.out _ (aS.out.trans ((ZX W1 _).mono aS.out.size))) (by have:=gD.out;simp;omega) (by have:=bJ.out.lt;simp;omega) ?_;intro v3a fH bu bA;obtain⟨dI,bU,dn,rfl⟩:=bu.sl;have dz:=hid bu;have dH:=hid bA;have bK:=hid ((bJ.out.al _).belowB bA (Nat.lt_succ_self _));have ja:fH.cell? ⟨gl,3,none⟩=some v:=bK.out.cell 3;have jr:fH.frozen? ⟨gl,3,none⟩=false:=bK.out.free 3;clear bu bA)
   |fail)
  generalize fB:World.setCell _ _ _=bn;have aD:ZZ (fun k=>k=gl) fH bn:=by rw[<-fB];exact ZZ.set _ ⟨gl,3,none⟩ _
  have av:Hid (Z5 bn gl (.cells #[.int .i64 12,.string ZQ,.int .i64 c',.slice dI bU dn] 24)):=by show Z5 _ _ _;rw[<-fB];exact bK.out.set (i:=3) _
  have bD:=hid (aS.out.trans ((Below.trans ((ZX W1 _).mono aS.out.size) (dH.out.mono (by have:=ai.out;omega)))));have bR:=hid (bD.out.trans (aD.below bD.out.size (fun k e=>by rw[e,<-ai.out];exact QT _)));have aW:=hid (dz.out.kept aD (Nat.lt_succ_self _) (fun k hk=>⟨ak.out _ bD.out k hk,dY.out k hk⟩));clear fB aD dz ja jr y3;have z1:((c:Int)==0)=false:=by have:=af.out;rw[beq_eq_false_iff_ne];omega
  have z2:¬(c:Int)=0:=by have:=af.out;omega
  have t9:(k:Int).tmod (c:Int)=((k % c:Nat):Int):=(Int.ofNat_tmod k c).symm;have w9:IntKind.i64.wrap ((k % c:Nat):Int)=((k % c:Nat):Int):=by have:=af.out;have h2:=Nat.mod_lt k (show 0<c by omega);exact IntWalk.i64_in _ (by omega)
  have v9:IntKind.i64.wrap ((k:Int)+1)=(k:Int)+1:=by have:=af.out;exact IntWalk.i64_in _ (by omega)
  obtain⟨kc,iE⟩:∃kc,k % c=kc:=⟨_,rfl⟩;rw[iE] at t9 w9 au;clear iE;cases columns
  case true =>
   by_cases aI:kc=r9
   ·have e9:((kc:Int)==(r9:Int))=true:=by rw[aI];simp
    have bM:Hid (ax (k+1)=ax k++[Z9.mk xk xt xc xs]++[Z6 []]):=by show _=_;rw[au.out];simp[aI]
    clear aI au
    go_upto_region 20 with fail
    have y3:bn.cell? ⟨gl,3,none⟩=some (.slice dI bU dn):=av.out.cell 3
    go_upto_region 21 with (first
     |(at_builtin;refine Tv rfl _ _ rfl dG.out rfl (aW.out.below (ak.out _ bR.out) (ZX _ _)) (fun k=>k=bn.heap.size) (some ⟨bn.heap.size,0,none⟩) 1 1 _ rfl rfl (fun _=>⟨bn.heap.size,0,rfl,rfl,fun j u hu=>by rw[Nat.zero_add];exact((Z5.at0 _ _).cell j).trans (by simpa using hu)⟩) (ZK.single (show Z7.R _ _ (Z6 []) [.int .i64 1,.string ⟨#[]⟩,.int .i64 0,.slice none 0 0] from YI.2 ⟨.slice none 0 0,rfl,by simp[Z4,Z6,Z9.kind],by simp[Z4,Z6,Z9.cols],QU _,Z8.nil_ 0 (QU _) none⟩)) (by have:=gD.out;simp;omega) (by have:=av.out.lt;simp;omega) ?_;intro v3b bC ay aA;obtain⟨gI,eU,fD,rfl⟩:=ay.sl;have aN:=hid ay;have aO:=hid aA;have aC:=hid ((av.out.al _).belowB aA (Nat.lt_succ_self _));have eG:bC.cell? ⟨gl,3,none⟩=some (.slice dI bU dn):=aC.out.cell 3;have fC:bC.frozen? ⟨gl,3,none⟩=false:=aC.out.free 3;clear ay aA)
     |fail)
    generalize bB:World.setCell _ _ _=dw;have aD:ZZ (fun k=>k=gl) bC dw:=by rw[<-bB];exact ZZ.set _ ⟨gl,3,none⟩ _
    have bH:Hid (Z5 dw gl (.cells #[.int .i64 12,.string ZQ,.int .i64 c',.slice gI eU fD] 24)):=by show Z5 _ _ _;rw[<-bB];exact aC.out.set (i:=3) _
    have aB:=hid (bR.out.trans ((Below.trans ((ZX bn _).mono bR.out.size) (aO.out.mono (by have:=ai.out;omega)))));have bL:=hid (aB.out.trans (aD.below aB.out.size (fun k e=>by rw[e,<-ai.out];exact QT _)));have bG:=hid (aN.out.kept aD (Nat.lt_succ_self _) (fun k hk=>⟨ak.out _ aB.out k hk,dY.out k hk⟩));clear bB aD aN eG fC y3
    go_wp2_with fail
    go_roundw
    case rel=>exact⟨bL.out,k+1,by omega,by go_num,_,bH.out,by rw[bM.out];exact bG.out⟩
    case measure=>simp[intOf];omega
   have e9:((kc:Int)==(r9:Int))=false:=by rw[beq_eq_false_iff_ne];omega
   have bM:Hid (ax (k+1)=ax k++[Z9.mk xk xt xc xs]):=by show _=_;rw[au.out];simp[aI]
   clear aI au
   go_wp2_with fail
   go_roundw
   case rel=>exact⟨bR.out,k+1,by omega,by go_num,_,av.out,by rw[bM.out];exact aW.out⟩
   case measure=>simp[intOf];omega
  case false =>
   have v1:IntKind.i64.wrap ((l9:Int)+1)=(l9:Int)+1:=by have:=af.out;exact IntWalk.i64_in _ (by omega)
   have v2:IntKind.i64.wrap (((l9:Int)+1)*(c:Int))=(P9:Int)+1:=by
    have e:((l9:Int)+1)*(c:Int)=(P9:Int)+1:=by
     have h9:((c*l9+c:Nat):Int)=((P9+1:Nat):Int):=by rw[af.out.2.2.1]
     push_cast at h9;rw[Int.add_mul,Int.one_mul,Int.mul_comm];exact h9
    rw[e];have:=af.out;exact IntWalk.i64_in _ (by omega)
   have v3:IntKind.i64.wrap (P9:Int)=(P9:Int):=by have:=af.out;exact IntWalk.i64_in _ (by omega)
   by_cases aI:k=P9
   ·have e9:((k:Int)==(P9:Int))=true:=by rw[aI];simp
    have bM:Hid (ax (k+1)=ax k++[Z9.mk xk xt xc xs]++List.replicate c ZJ):=by show _=_;rw[au.out];simp[aI]
    clear aI au
    go_upto_region 22 with fail
    have y3:bn.cell? ⟨gl,3,none⟩=some (.slice dI bU dn):=av.out.cell 3
    go_upto_region 23 with (first
     |(at_builtin;refine appZ rfl _ _ rfl dG.out rfl aW.out c (by have:=af.out;omega) rfl (by have:=af.out;have:=gD.out;simp;omega) (by have:=av.out.lt;omega) ?_;intro v2b bC ay aA;obtain⟨gI,eU,fD,rfl⟩:=ay.sl;have aN:=hid ay;have aO:=hid aA;have aC:=hid (av.out.belowB aA (Nat.lt_succ_self _));have eG:bC.cell? ⟨gl,3,none⟩=some (.slice dI bU dn):=aC.out.cell 3;have fC:bC.frozen? ⟨gl,3,none⟩=false:=aC.out.free 3;clear ay aA)
     |fail)
    generalize bB:World.setCell _ _ _=dw;have aD:ZZ (fun k=>k=gl) bC dw:=by rw[<-bB];exact ZZ.set _ ⟨gl,3,none⟩ _
    have bH:Hid (Z5 dw gl (.cells #[.int .i64 12,.string ZQ,.int .i64 c',.slice gI eU fD] 24)):=by show Z5 _ _ _;rw[<-bB];exact aC.out.set (i:=3) _
    have aB:=hid (bR.out.trans (aO.out.mono (Nat.le_of_lt (by have:=ai.out;omega))));have bL:=hid (aB.out.trans (aD.below aB.out.size (fun k e=>by rw[e,<-ai.out];exact QT _)));have bG:=hid (aN.out.kept aD (Nat.lt_succ_self _) (fun k hk=>⟨ak.out _ aB.out k hk,dY.out k hk⟩));clear bB aD aN eG fC y3
    go_wp2_with fail
    go_roundw
    case rel=>exact⟨bL.out,k+1,by omega,by go_num,_,bH.out,by rw[bM.out];exact bG.out⟩
    case measure=>simp[intOf];omega
   have e9:((k:Int)==(P9:Int))=false:=by rw[beq_eq_false_iff_ne];omega
   have bM:Hid (ax (k+1)=ax k++[Z9.mk xk xt xc xs]):=by show _=_;rw[au.out];simp[aI]
   clear aI au
   go_wp2_with fail
   go_roundw
   case rel=>exact⟨bR.out,k+1,by omega,by go_num,_,av.out,by rw[bM.out];exact aW.out⟩
   case measure=>simp[intOf];omega
 have cK:k=it.kids.length:=by omega
 have iU:Hid (0<(ax k).length):=by
  have h1:=congrArg List.length gq.out;show 0<_;have hn:=af.out;obtain⟨k1,jl⟩:∃k1,k=k1+1:=⟨k-1,by omega⟩;rw[jl,aM.out k1 (by omega)];simp;omega
 have jB:=hid (aP.out k (by have:=af.out;omega));have gm:Hid ((ax k).map Wp=LK):=by show _=_;rw[cK];exact gq.out
 have i1:¬(k:Int)<(it.kids.length:Int):=by omega
 generalize ax k=Z at *;clear gq aM aP bN;obtain⟨gz,cz,rfl,iF,_,_⟩:=ag.out.some_ iU.out;have y3:wr.cell? ⟨gl,3,none⟩=some (.slice (some ⟨gz,0,none⟩) Z.length cz):=aj.out.cell 3;clear cK
 go_upto_region 25 with fail
 clear y3 i1
 go_loopw [113] (fun j wr=>Below X.heap.size X wr/\∃k:Nat,k<=Z.length/\j=.int .i64 k/\Z5 wr gl (.cells #[.int .i64 12,.string ZQ,.int .i64 c',.slice (some ⟨gz,0,none⟩) Z.length cz] 24)/\ZH wr (gl+1) (Lt X.heap.size) (Wq Z k) (.slice (some ⟨gz,0,none⟩) Z.length cz)) (fun j _=>Z.length-(intOf j).toNat)
 case atStart=>exact⟨HB.out,0,QU _,rfl,aj.out,by simpa[Wq] using ag.out⟩
 obtain⟨hb,k2,jk,rfl,cO,bg⟩:=hrel;have HB:=hid hb;have aj:=hid cO;have ag:=hid bg;clear hb cO bg;by_cases cu:k2<Z.length
 ·have i0:(0:Int)<=(k2:Int):=by omega
  have i1:(k2:Int)<(Z.length:Int):=by omega
  have y3:wr.cell? ⟨gl,3,none⟩=some (.slice (some ⟨gz,0,none⟩) Z.length cz):=aj.out.cell 3;obtain⟨jq,cz2,gV,_,_,iJ⟩:=ag.out.some_ (by rw[zSi];omega);have bZ:gz=jq:=by injection gV with h1 _ _;injection h1 with h1;injection h1
  obtain⟨⟨u9,c9⟩,f9⟩:=iJ (k2*4) (by rw[zSi];omega);rw[<-bZ] at c9 f9;have jE:=hid (zTu Z cu);have hZl:Z.length<=5000:=jB.out;have v9:IntKind.i64.wrap ((k2:Int)+1)=(k2:Int)+1:=IntWalk.i64_in _ (by omega);clear gV bZ iJ
  go_wp2_with fail
  go_roundw
  case rel =>
   have aD:ZZ (fun k=>k=gz) wr (wr.setCell ⟨gz,k2*4,none⟩ (.int .i64 1)):=ZZ.set wr ⟨gz,k2*4,none⟩ _;have hgg:gl<gz:=iF;refine⟨HB.out.trans (aD.below HB.out.size (fun k e=>by rw[e];have:=ai.out;omega)),k2+1,by omega,by go_num,aD.obj aj.out (by omega),?_⟩;have h9:=ag.out.kind (zSi Z k2).symm dG.out iF k2;rw[jE.out] at h9;exact h9
  case measure=>simp[intOf];omega
 have cK:k2=Z.length:=by omega
 have ag:Hid (ZH wr (gl+1) (Lt X.heap.size) LK (.slice (some ⟨gz,0,none⟩) Z.length cz)):=by show ZH _ _ _ _ _;have h9:=ag.out;rw[cK,zUo,gm.out] at h9;exact h9
 have jA:Hid (Z.length=LK.length):=by show _=_;rw[<-gm.out];simp
 have i1:¬(k2:Int)<(Z.length:Int):=by omega
 generalize wr=w5 at *;have ah:=hid (aL.out _ HB.out);have eT:w5.cell? ⟨gs,13,none⟩=some (.slice A2 q2.length c2):=ah.out.cell 13;have eQ:w5.cell? ⟨gs,14,none⟩=some (.int .i64 i):=ah.out.cell 14;have eP:w5.cell? ⟨gs,16,none⟩=some (.int .i64 it.kind):=ah.out.cell 16;have jd:w5.cell? ⟨gs,17,none⟩=some (.string it.text):=ah.out.cell 17;have eO:w5.cell? ⟨gs,18,none⟩=some (.int .i64 it.cols):=ah.out.cell 18;have eH:w5.cell? ⟨gs,19,none⟩=some (.slice A3 it.kids.length c3):=ah.out.cell 19;clear cK gm iU cu jk
 go_upto_region 30 with (first
  |(refine sR 49 18 129 (Z5.at1 _ _ _) ?_)
  |fail)
 clear eT eQ eP jd eO eH i1;generalize iO:World.setRow _ _ _=V1;obtain⟨dM,fq,dL⟩:Below w5.heap.size w5 V1/\Z5 V1 w5.heap.size (.cells #[.int .i64 it.kind,.string it.text,.int .i64 it.cols,.slice A3 it.kids.length c3] 24)/\Z5 V1 (w5.heap.size+1) (.cells #[.int .i64 2,.slice A2 q2.length c2,.int .i64 i,.int .i64 0,.slice (some ⟨w5.heap.size,0,none⟩) 1 1,.int .i64 0,.string ZQ,.string ZQ] 49):=by
  rw[<-iO];refine⟨YV (Zq (ZX _ _) _) (Nat.le_succ _) _,?_,(Z5.at1 _ _ _).row _⟩;exact(setRow_other _ _ _ _ (by omega)).trans ((Z5.at0 _ _).al _)
 obtain⟨g1,gZ⟩:∃g1,w5.heap.size=g1:=⟨_,rfl⟩;have bI:=hid aj.out.lt;simp only[gZ] at fq dL bI ⊢;obtain⟨g2,gY⟩:∃g2,g1+1=g2:=⟨_,rfl⟩;simp only[gY] at dL ⊢;have dF:=hid fq;have iZ:=hid dL;have ag:=hid (ag.out.below (ak.out _ HB.out) dM);have aj:=hid (aj.out.below dM);have HB:=hid (HB.out.trans (dM.mono HB.out.size));clear iO dM fq dL gZ;have ah:=hid (aL.out _ HB.out);have eT:V1.cell? ⟨gs,13,none⟩=some (.slice A2 q2.length c2):=ah.out.cell 13;have eQ:V1.cell? ⟨gs,14,none⟩=some (.int .i64 i):=ah.out.cell 14;have y0:V1.cell? ⟨gl,0,none⟩=some (.int .i64 12):=aj.out.cell 0;have y1:V1.cell? ⟨gl,1,none⟩=some (.string ZQ):=aj.out.cell 1;have y2:V1.cell? ⟨gl,2,none⟩=some (.int .i64 c'):=aj.out.cell 2;have y3:V1.cell? ⟨gl,3,none⟩=some (.slice (some ⟨gz,0,none⟩) Z.length cz):=aj.out.cell 3
 go_upto_region 31 with (first
  |(refine sR 49 19 136 (Z5.at1 _ _ _) ?_)
  |fail)
 clear eT eQ y0 y1 y2 y3;generalize hV:World.setRow _ _ _=V;obtain⟨dh,dK,dJ⟩:Below V1.heap.size V1 V/\Z5 V V1.heap.size (.cells #[.int .i64 12,.string ZQ,.int .i64 c',.slice (some ⟨gz,0,none⟩) Z.length cz] 24)/\Z5 V (V1.heap.size+1) (.cells #[.int .i64 1,.slice A2 q2.length c2,.int .i64 i,.int .i64 0,.slice (some ⟨V1.heap.size,0,none⟩) 1 1,.int .i64 0,.string ZQ,.string ZQ] 49):=by
  rw[<-hV];refine⟨YV (Zq (ZX _ _) _) (Nat.le_succ _) _,?_,(Z5.at1 _ _ _).row _⟩;exact(setRow_other _ _ _ _ (by omega)).trans ((Z5.at0 _ _).al _)
 obtain⟨g3,gX⟩:∃g3,V1.heap.size=g3:=⟨_,rfl⟩;simp only[gX] at dK dJ ⊢;obtain⟨g4,gW⟩:∃g4,g3+1=g4:=⟨_,rfl⟩;simp only[gW] at dJ ⊢;have jG:Hid (g2≠w.heap.size+1+1):=fun e=>by have h1:=HG.out.lt;have h2:=bI.out;have h3:=ai.out;omega
 have jF:Hid (g4≠w.heap.size+1+1):=fun e=>by have h1:=HG.out.lt;have h2:=HB.out.size;omega
 have fV:=hid (iZ.out.below dh);have fU:=hid dJ;have dF:=hid (dF.out.below dh);have ag:=hid (ag.out.below (ak.out _ HB.out) dh);have aQ:=hid (HB.out.trans (dh.mono HB.out.size));have HG:=hid (HG.out.below aQ.out);have ah:=hid (aL.out _ aQ.out);have bQ:=hid (bQ.out.trans (aQ.out.mono bQ.out.size));obtain⟨LT,dN⟩:∃LT,Z9.mk 12 ZQ c' LK=LT:=⟨_,rfl⟩;rw[dN] at HR;have dD:=hid (dX.out.below aQ.out aQ.out.size);have aV:=hid (fP.out.below aQ.out aQ.out.size);have aZ:Z8 Z7 V (Lt V.heap.size) [it] (.slice (some ⟨g1,0,none⟩) 1 1):=TG (E:=Z7) (cs:=[.int .i64 it.kind,.string it.text,.int .i64 it.cols,.slice A3 it.kids.length c3]) dF.out (YI.2 ⟨_,rfl,fZ.out.1,fZ.out.2.1,fZ.out.2.2,dD.out⟩) dF.out.lt;have aY:Z8 Z7 V (Lt V.heap.size) [LT] (.slice (some ⟨g3,0,none⟩) 1 1):=by
  rw[<-dN];refine TG (E:=Z7) (cs:=[.int .i64 12,.string ZQ,.int .i64 c',.slice (some ⟨gz,0,none⟩) Z.length cz]) dK (YI.2 ⟨_,rfl,by simp[Z4,Z9.kind],YS (by have:=dZ.out;simp only[Z9.cols];omega),QU _,?_⟩) dK.lt;exact ag.out.rows (ak.out _ aQ.out)
 have dA:Hid (ZT [LT]<=1000000):=by show _<=_;rw[<-dN];have:=dB.out;simp only[ZT,ZW];omega
 have dE:Hid (ZT [it]<=1000000):=by have:=aX.out;show ZW it+0<=_;omega
 have jI:Hid (∀W B,Below V.heap.size V W->BA V W B #[.int .i64 t.kind,.string t.text,.int .i64 t.cols,.slice A t.kids.length cap,.slice Ap p.length cp,.slice Am m.length cm,.slice Ar rr.length cr,.int .i64 ra,.int .i64 rb,.slice A1 q.length cp,.int .i64 o,.slice Ai its.length ci,.bool true,.slice A2 q2.length c2,.int .i64 i,.int .i64 (s':Int),.int .i64 it.kind,.string it.text,.int .i64 it.cols,.slice A3 it.kids.length c3] [⟨2,q2,i,0,[it],0,ZQ,ZQ⟩,⟨1,q2,i,0,[LT],0,ZQ,ZQ⟩] (q2++[i,(own:Int),o]) []->Calls Tryz.prog 48 #[.pointer (some ⟨B,0,none⟩)] W (Zg V aH)):=fun W B hW hb=>(zPi dQ.out (aQ.out.trans (hW.mono aQ.out.size)) hb (by simp)).mono (fun e w' h=>by rw[HR.out];exact h)
 have gB:Hid (∀(W:World) (F:Nat->Prop) (B:Nat),BS V W F B #[.int .i64 t.kind,.string t.text,.int .i64 t.cols,.slice A t.kids.length cap,.slice Ap p.length cp,.slice Am m.length cm,.slice Ar rr.length cr,.int .i64 ra,.int .i64 rb,.slice A1 q.length cp,.int .i64 o,.slice Ai its.length ci,.bool true,.slice A2 q2.length c2,.int .i64 i,.int .i64 (s':Int),.int .i64 it.kind,.string it.text,.int .i64 it.cols,.slice A3 it.kids.length c3] []->Calls Tryz.prog 45 #[.pointer (some ⟨B,0,none⟩),.agg #[.int .i64 2,.slice A2 q2.length c2,.int .i64 i,.int .i64 0,.slice (some ⟨g1,0,none⟩) 1 1,.int .i64 0,.string ZQ,.string ZQ]] W fun e w'=>∃F',e=.returned (.pointer (some ⟨B,0,none⟩))/\BS V w' F' B #[.int .i64 t.kind,.string t.text,.int .i64 t.cols,.slice A t.kids.length cap,.slice Ap p.length cp,.slice Am m.length cm,.slice Ar rr.length cr,.int .i64 ra,.int .i64 rb,.slice A1 q.length cp,.int .i64 o,.slice Ai its.length ci,.bool true,.slice A2 q2.length c2,.int .i64 i,.int .i64 (s':Int),.int .i64 it.kind,.string it.text,.int .i64 it.cols,.slice A3 it.kids.length c3] [⟨2,q2,i,0,[it],0,ZQ,ZQ⟩]/\Ym F F' W w'):=fun W F B hb=>TQ hb ⟨2,q2,i,0,[it],0,ZQ,ZQ⟩ A2 (some ⟨g1,0,none⟩) c2 1 (by simp) (aV.out.below hb.below hb.below.size) (aZ.below hb.below hb.below.size) (by have:=aX.out;show q2.length<=_;omega) dE.out (by simp[Z4]) (YS (by have:=aX.out;show _<=i/\i<=_;omega)) (by simp[Z4]) (by simp[Z4]) (QU _) (QU _)
 have ed:Hid (∀(W:World) (F:Nat->Prop) (B:Nat),BS V W F B #[.int .i64 t.kind,.string t.text,.int .i64 t.cols,.slice A t.kids.length cap,.slice Ap p.length cp,.slice Am m.length cm,.slice Ar rr.length cr,.int .i64 ra,.int .i64 rb,.slice A1 q.length cp,.int .i64 o,.slice Ai its.length ci,.bool true,.slice A2 q2.length c2,.int .i64 i,.int .i64 (s':Int),.int .i64 it.kind,.string it.text,.int .i64 it.cols,.slice A3 it.kids.length c3] [⟨2,q2,i,0,[it],0,ZQ,ZQ⟩]->Calls Tryz.prog 45 #[.pointer (some ⟨B,0,none⟩),.agg #[.int .i64 1,.slice A2 q2.length c2,.int .i64 i,.int .i64 0,.slice (some ⟨g3,0,none⟩) 1 1,.int .i64 0,.string ZQ,.string ZQ]] W fun e w'=>∃F',e=.returned (.pointer (some ⟨B,0,none⟩))/\BS V w' F' B #[.int .i64 t.kind,.string t.text,.int .i64 t.cols,.slice A t.kids.length cap,.slice Ap p.length cp,.slice Am m.length cm,.slice Ar rr.length cr,.int .i64 ra,.int .i64 rb,.slice A1 q.length cp,.int .i64 o,.slice Ai its.length ci,.bool true,.slice A2 q2.length c2,.int .i64 i,.int .i64 (s':Int),.int .i64 it.kind,.string it.text,.int .i64 it.cols,.slice A3 it.kids.length c3] [⟨2,q2,i,0,[it],0,ZQ,ZQ⟩,⟨1,q2,i,0,[LT],0,ZQ,ZQ⟩]/\Ym F F' W w'):=fun W F B hb=>TQ hb ⟨1,q2,i,0,[LT],0,ZQ,ZQ⟩ A2 (some ⟨g3,0,none⟩) c2 1 (by simp) (aV.out.below hb.below hb.below.size) (aY.below hb.below hb.below.size) (by have:=aX.out;show q2.length<=_;omega) dA.out (by simp[Z4]) (YS (by have:=aX.out;show _<=i/\i<=_;omega)) (by simp[Z4]) (by simp[Z4]) (QU _) (QU _)
 have HW:Hid (Below V.heap.size V V):=hid (QQ _ _);have eF:Hid (∀x∈[i,(own:Int),o],Z4 x):=fun x hx=>by have:=aX.out;have:=dx.out;simp at hx;exact YS (by omega)
 have HL:Hid (q2.length+[i,(own:Int),o].length<=100000):=by have:=aX.out;show q2.length+3<=_;omega
 have dV:=iY;have dS:Hid (∀W,Below V.heap.size V W->Z0 W (Lt W.heap.size) q2 (.slice A2 q2.length c2)):=fun W hW=>aV.out.below hW hW.size
 clear hV dh dK dJ gY gX gW aZ aY dN dF iZ ag aj dD aV bI HR af dU dZ dG dY ak aL HB dX fP dB aX dE dA;refine wp_region_noPanic ?_;refine wp_region_held_drew (S:=fun w'=>ZZ (fun k=>k=w.heap.size+1+1) V w') (by kernel_rfl) (kwt HW.out) (fun hHeld=>?_);refine tr 0 137 69 8 rfl (fun w hS=>hS.obj ah.out dV.out) Tryz.underlying69 ?_;refine tr 2 139 49 18 rfl (fun w hS=>hS.obj fV.out jG.out) Tryz.underlying49 ?_;refine tr 4 141 49 19 rfl (fun w hS=>hS.obj fU.out jF.out) Tryz.underlying49 ?_;refine tk 6 143 rfl ?_;refine tk 7 144 rfl ?_ (hy:=Or.inl ⟨by rfl,fun W hS=>by have h:W.cell? ⟨gs,13,none⟩=some (.slice A2 q2.length c2):=(hS.obj ah.out dV.out).cell 13;clear hS;go_simp;try with_reducible rfl⟩);refine tk 8 145 rfl ?_;refine tk 9 146 rfl ?_ (hy:=Or.inl ⟨by rfl,fun W hS=>by have h:W.cell? ⟨gs,14,none⟩=some (.int .i64 i):=(hS.obj ah.out dV.out).cell 14;clear hS;go_simp;try with_reducible rfl⟩);refine tk 10 147 rfl ?_;refine tk 11 148 rfl ?_;refine tk 12 149 rfl ?_ (hy:=Or.inl ⟨by rfl,fun W hS=>by have h:W.cell? ⟨gs,10,none⟩=some (.int .i64 o):=(hS.obj ah.out dV.out).cell 10;clear hS;go_simp;try with_reducible rfl⟩);refine rn [1,13] (rc (some 138) rfl (fun K hK=>?_) (rc (some 150) rfl (fun K hK=>?_) AllReadyH.nil));go_simp;refine Calls.mono (RU _ _ _ _ _ _ _ _ _ _ _ _ _ _ _ _ _ _ _ _  V _ (bwt HW.out)) ?_;rintro e wk ⟨B,F,rfl,aa,ae⟩
 try have HR:=hid (Ym.keep ae (YZ bw HR.out))
 have HB:=hid aa;have aR:=HB;have HW:=hid aa.below;clear ae aa;refine hK.out _ _ (kwt HW.out) (fun hHeld=>?_);clear hK K;refine rn [3,13] (rc (some 140) rfl (fun K hK=>?_) (rc (some 150) rfl (fun K hK=>?_) AllReadyH.nil));go_simp;refine Calls.mono (gB.out _ _ _ (HB.out.bl bw)) ?_;rintro e wk ⟨F,rfl,aa,ae⟩
 try have HR:=hid (Ym.keep ae (YZ bw HR.out))
 have HB:=hid aa;have aR:=HB;have HW:=hid aa.below;clear ae aa;refine hK.out _ _ (kwt HW.out) (fun hHeld=>?_);clear hK K;refine rn [5,13] (rc (some 142) rfl (fun K hK=>?_) (rc (some 150) rfl (fun K hK=>?_) AllReadyH.nil));go_simp;refine Calls.mono (ed.out _ _ _ (HB.out.bl bw)) ?_;rintro e wk ⟨F,rfl,aa,ae⟩
 try have HR:=hid (Ym.keep ae (YZ bw HR.out))
 have HB:=hid aa;have aR:=HB;have HW:=hid aa.below;clear ae aa;refine hK.out _ _ (kwt HW.out) (fun hHeld=>?_);clear hK K;refine r1 13 (some 150) rfl (fun K hK=>?_);go_simp;refine hK.out _ _ (kwt HW.out) (fun hHeld=>?_);clear hK K;refine r1 14 (some 151) rfl (fun K hK=>?_);go_simp;refine Calls.mono (UI (HB.out.bl bw) q2 [i,(own:Int),o] _ _ _ _ (dS.out _ (HB.out.bl bw).below) (zNu _ [i,(own:Int),o] _ (eF.out) (by simp[maxLen])) (HL.out)) ?_;rintro e wk ⟨rfl,az⟩;have HB:=hid az;have HW:=hid az.below;clear az;refine hK.out _ _ (kwt HW.out) (fun hHeld=>?_);clear hK K
 try simp only[qP,qN,qS,qZ,qC]
 rotate_left;go_simp;refine hK.out _ _ (kwt HW.out) (fun hHeld=>?_);clear hK K;refine r1 5 (some 142) rfl (fun K hK=>?_);go_simp;refine Calls.mono (ed.out _ _ _ (HB.out.bl bw)) ?_;rintro e wk ⟨F,rfl,aa,ae⟩;have HR:=hid (Rz [i,(own:Int),o] (eF.out) (by simp[maxLen]) ((BS.bl aR.out bw).hi) ae);have HB:=hid aa;have aR:=HB;have HW:=hid aa.below;clear ae aa;refine hK.out _ _ (kwt HW.out) (fun hHeld=>?_);clear hK K;refine r1 14 (some 151) rfl (fun K hK=>?_);go_simp;refine Calls.mono (UI (HB.out.bl bw) q2 [i,(own:Int),o] _ _ _ _ (dS.out _ (HB.out.bl bw).below) (Xf (YZ bw HR.out)) (HL.out)) ?_;rintro e wk ⟨rfl,az⟩;have HB:=hid az;have HW:=hid az.below;clear az;refine hK.out _ _ (kwt HW.out) (fun hHeld=>?_);clear hK K
 try simp only[qP,qN,qS,qZ,qC]
 rotate_left;go_simp;refine hK.out _ _ (kwt HW.out) (fun hHeld=>?_);clear hK K;refine r1 3 (some 140) rfl (fun K hK=>?_);go_simp;refine Calls.mono (gB.out _ _ _ (HB.out.bl bw)) ?_;rintro e wk ⟨F,rfl,aa,ae⟩;have HR:=hid (Rz [i,(own:Int),o] (eF.out) (by simp[maxLen]) ((BS.bl aR.out bw).hi) ae);have HB:=hid aa;have aR:=HB;have HW:=hid aa.below;clear ae aa;refine hK.out _ _ (kwt HW.out) (fun hHeld=>?_);clear hK K;refine r1 5 (some 142) rfl (fun K hK=>?_);go_simp;refine Calls.mono (ed.out _ _ _ (HB.out.bl bw)) ?_;rintro e wk ⟨F,rfl,aa,ae⟩
 try have HR:=hid (Ym.keep ae (YZ bw HR.out))
 have HB:=hid aa;have aR:=HB;have HW:=hid aa.below;clear ae aa;refine hK.out _ _ (kwt HW.out) (fun hHeld=>?_);clear hK K;refine r1 14 (some 151) rfl (fun K hK=>?_);go_simp;refine Calls.mono (UI (HB.out.bl bw) q2 [i,(own:Int),o] _ _ _ _ (dS.out _ (HB.out.bl bw).below) (Xf (YZ bw HR.out)) (HL.out)) ?_;rintro e wk ⟨rfl,az⟩;have HB:=hid az;have HW:=hid az.below;clear az;refine hK.out _ _ (kwt HW.out) (fun hHeld=>?_);clear hK K
 try simp only[qP,qN,qS,qZ,qC]
 rotate_left;go_simp;refine hK.out _ _ (kwt HW.out) (fun hHeld=>?_);clear hK K;refine r1 1 (some 138) rfl (fun K hK=>?_);go_simp;refine Calls.mono (RU _ _ _ _ _ _ _ _ _ _ _ _ _ _ _ _ _ _ _ _  V _ (bwt HW.out)) ?_;rintro e wk ⟨B,F,rfl,aa,ae⟩;have HR:=hid (zJ6 [i,(own:Int),o] (eF.out) (by simp[maxLen]) (fun _ h=>False.elim h) ae);have HB:=hid aa;have aR:=HB;have HW:=hid aa.below;clear ae aa;refine hK.out _ _ (kwt HW.out) (fun hHeld=>?_);clear hK K;refine r1 3 (some 140) rfl (fun K hK=>?_);go_simp;refine Calls.mono (gB.out _ _ _ (HB.out.bl bw)) ?_;rintro e wk ⟨F,rfl,aa,ae⟩
 try have HR:=hid (Ym.keep ae (YZ bw HR.out))
 have HB:=hid aa;have aR:=HB;have HW:=hid aa.below;clear ae aa;refine hK.out _ _ (kwt HW.out) (fun hHeld=>?_);clear hK K;refine r1 5 (some 142) rfl (fun K hK=>?_);go_simp;refine Calls.mono (ed.out _ _ _ (HB.out.bl bw)) ?_;rintro e wk ⟨F,rfl,aa,ae⟩
 try have HR:=hid (Ym.keep ae (YZ bw HR.out))
 have HB:=hid aa;have aR:=HB;have HW:=hid aa.below;clear ae aa;refine hK.out _ _ (kwt HW.out) (fun hHeld=>?_);clear hK K;refine r1 14 (some 151) rfl (fun K hK=>?_);go_simp;refine Calls.mono (UI (HB.out.bl bw) q2 [i,(own:Int),o] _ _ _ _ (dS.out _ (HB.out.bl bw).below) (Xf (YZ bw HR.out)) (HL.out)) ?_;rintro e wk ⟨rfl,az⟩;have HB:=hid az;have HW:=hid az.below;clear az;refine hK.out _ _ (kwt HW.out) (fun hHeld=>?_);clear hK K
 try simp only[qP,qN,qS,qZ,qC]
 rotate_left
 all_goals
  refine r1 15 (some 152) rfl (fun K hK=>?_);go_simp;refine Calls.mono (jI.out _ _ (bwt HW.out) (HB.out.bl bw)) ?_;rintro e wk bY;have fM:=hid bY;obtain⟨jK,jw,jJ,jv,jL,jy,gG,fE,gH,fF,rfl,_,_,_,_,_,fA⟩:=bY;have HW:=hid fA;have gu:=hid (HG.out.below fA);clear fA;refine hK.out _ _ (kwt HW.out) (fun hHeld=>?_);clear hK K;refine tk 16 153 rfl ?_;refine tk 17 154 rfl ?_;refine r1 18 none rfl (fun K hK=>?_);rw[if_pos (by rfl)];refine wp_store_row 35 (.tmp 6) (.tmp 153) rfl (w.heap.size+1+1) #[.slice jK aH.1.ops.length jw,.slice jJ aH.1.bp.length jv,.slice jL aH.1.bm.length jy,.slice gG aH.1.ap.length fE,.slice gH aH.1.am.length fF] rfl rfl 35 _ gu.out (by kernel_rfl) (by simp) (by simp[Value.oneCell']) ?_;refine Wv gu.out (fun X9 dP=>?_);refine hK.out _ _ ((kwt HW.out).trans' dP.out.1) (fun hHeld=>?_);clear hK K;refine tk 19 7 rfl ?_;refine wpAnyH_done (by kernel_rfl) ?_ _;refine NoPanic.normal ?_
 all_goals
  refine(‹∀(a:Act) (jb:World),Code.wp Tryz.prog Code.ret (bodyPost Tryz.prog Tryz.f27 (Zg w aH)) a jb->_›) _ _ (wp_ret ?_);refine Yr Tryz.results27 Tryz.underlying35 (.int .i64 aH.2) dP.out.2.1 ?_;exact Zg.put (arr:=#[]) fM.out gu.out dP.out.1 dP.out.2.2 bQ.out (by omega)
