/- T -/
import Derived.Test.YthpngeboknmllaaGreatQba8d
import Derived.Test.YthpngeboknmllaaGreatQ4d69
import Derived.Test.YthpngeboknmllaaGreatQ5d16
set_option linter.unusedVariables false
set_option linter.unusedSimpArgs false
set_option maxHeartbeats 16000000
set_option maxRecDepth 100000
namespace Go.Proofs.YthpngeboknmllaaGreat
open Go.RowKit
theorem zVl (t:Z9) (p m:List Int) (columns:Bool) (A Ap Am:Option Addr) (cap cp cm:Nat) (w:World) (hv:Z8 Z6 w (Lt w.heap.size) t.kids (.slice A t.kids.length cap)) (iq:Zk t) (iK:ZR t<=900000) (hp:Z0 w (Lt w.heap.size) p (.slice Ap p.length cp)) (hm:Z0 w (Lt w.heap.size) m (.slice Am m.length cm)) (il:p.length<=90000) (iy:m.length<=90000) :
  Calls Tryz.prog 27 #[.agg #[.int .i64 t.kind,.string t.text,.int .i64 t.cols,.slice A t.kids.length cap],.agg #[.slice Ap p.length cp,.slice Am m.length cm],.bool columns] w (ZC w (VM t p m columns)):=by
 obtain⟨W0,dm⟩:∃W0,((w.alloc (.cells #[.int .i64 t.kind,.string t.text,.int .i64 t.cols,.slice A t.kids.length cap] 24)).alloc (.cells #[.slice Ap p.length cp,.slice Am m.length cm] 27)).alloc (.cells #[.slice none 0 0,.slice none 0 0,.slice none 0 0,.slice none 0 0,.slice none 0 0] 35)=W0:=⟨_,rfl⟩;have iM:Below w.heap.size w W0:=by rw[<-dm];exact Zy (Zy (ZW _ _) _) _
 have fw:Z5 W0 w.heap.size (.cells #[.int .i64 t.kind,.string t.text,.int .i64 t.cols,.slice A t.kids.length cap] 24):=by rw[<-dm];exact((Z5.at0 _ _).al _).al _
 have fu:Z5 W0 (w.heap.size+1) (.cells #[.slice Ap p.length cp,.slice Am m.length cm] 27):=by rw[<-dm];exact(Z5.at1 _ _ _).al _
 have jF:=hid fw;have jE:=hid fu;have ja:Hid (Z5 W0 (w.heap.size+1+1) (.cells #[.slice none 0 0,.slice none 0 0,.slice none 0 0,.slice none 0 0,.slice none 0 0] 35)):=by show Z5 _ _ _;rw[<-dm];exact Z5.at2 _ _ _ _
 have eG:=hid iM;have gH:Hid (∀W,Z5 W w.heap.size (.cells #[.int .i64 t.kind,.string t.text,.int .i64 t.cols,.slice A t.kids.length cap] 24)->Z5 W (w.heap.size+1) (.cells #[.slice Ap p.length cp,.slice Am m.length cm] 27)->W.cell? ⟨w.heap.size,0,none⟩=some (.int .i64 t.kind)/\W.cell? ⟨w.heap.size,1,none⟩=some (.string t.text)/\W.cell? ⟨w.heap.size,2,none⟩=some (.int .i64 t.cols)/\W.cell? ⟨w.heap.size,3,none⟩=some (.slice A t.kids.length cap)/\W.cell? ⟨w.heap.size+1,0,none⟩=some (.slice Ap p.length cp)/\W.cell? ⟨w.heap.size+1,1,none⟩=some (.slice Am m.length cm)):=fun W h1 h2=>⟨h1.cell 0,h1.cell 1,h1.cell 2,h1.cell 3,h2.cell 0,h2.cell 1⟩
 have CL:Hid (∀W,Below w.heap.size w W->Calls Tryz.prog 42 #[.agg #[.int .i64 t.kind,.string t.text,.int .i64 t.cols,.slice A t.kids.length cap],.agg #[.slice Ap p.length cp,.slice Am m.length cm]] W _):=fun W hW=>QB t p m A Ap Am cap cp cm W (hv.below hW hW.size) iq iK (hp.below hW hW.size) (hm.below hW hW.size) il iy
 have HE:=hid (zS3 t p m columns);obtain⟨ax,dn⟩:∃ax,VM t p m columns=ax:=⟨_,rfl⟩;rw[dn] at HE ⊢;obtain⟨m0,m1,m2,m3,n0,n1⟩:=gH.out W0 fw fu;clear hv iq iK hp hm il iy iM fw fu dn;go_enter Tryz.func27,Tryz.ntmps27
 go_wp2_with fail
 refine(CL.out _ eG.out).mono ?_;rintro e w1 ⟨bq,h1⟩;have HG:=hid (ja.out.below bq);have aJ:=hid (eG.out.trans (bq.mono eG.out.size));clear bq m0 m1 m2 m3 n0 n1 CL eG dm ja jF jE;rcases h1 with ⟨he,rfl⟩|⟨he,rr,Ar,cr,ra,rb,q,A1,o,its,Ai,ci,ar,q2,A2,c2,i,s,it,A3,c3,rfl,ae⟩
 ·have HR:=hid (HE.out.1 he);have hse:((ZK t p m).2 != 0)=true:=by simp[he]
  clear HE he;generalize (ZK t p m).2=se at *
  go_upto_region 2 with (first
   |(refine wpList_store_row rfl 69 (.tmp 8) (.tmp 24) rfl w1.heap.size _ rfl rfl 69 _ (Z5.at0 _ _) (by kernel_rfl) (by simp) (by simp[Value.oneCell']) ?_)
   |fail)
  generalize hX:World.setRow _ _ _=X;have eF:Hid (Below w.heap.size w X):=by show Below _ _ _;rw[<-hX];exact Y6 (aJ.out.trans ((ZW w1 _).mono aJ.out.size)) aJ.out.size _
  have HG:Hid (Z5 X (w.heap.size+1+1) (.cells #[.slice none 0 0,.slice none 0 0,.slice none 0 0,.slice none 0 0,.slice none 0 0] 35)):=by show Z5 _ _ _;rw[<-hX];exact(setRow_other _ _ _ _ (Nat.ne_of_lt HG.out.lt)).trans (HG.out.al _)
  clear hX
  go_wp2_with (first
   |(refine wpList_store_row rfl 35 (.tmp 6) (.tmp 28) rfl (w.heap.size+1+1) _ rfl rfl 35 _ HG.out (by kernel_rfl) (by simp) (by simp[Value.oneCell']) ?_)
   |fail)
  refine bodyPost_ret (v:=.tuple #[.agg #[.slice none 0 0,.slice none 0 0,.slice none 0 0,.slice none 0 0,.slice none 0 0],.int .i64 se]) (Y1 Tryz.results27 _ _ _ (w.heap.size+1+1) 35 _ (0,0) _ rfl (HG.out.row _) rfl Tryz.underlying35 (by kernel_rfl) _ rfl) rfl ?_;rw[HR.out];exact XI se (Y6 eF.out (by omega) _)
 have aU:=ae.of;have fq:=ae.pe;simp only at aU fq;have iw:(ZK t p m).2=0:=by rw[aU]
 have eO:=hid ae.ar0;have eH:=hid ae.ar1;simp only at eO eH;have fQ:=hid (HE.out.2.1 iw);have fO:=hid (fun a b c d=>HE.out.2.2 rr ra rb a b c d o aU);have fU:=hid fq;simp only[Vy];clear HE he iw aU fq
 go_upto_region 2 with (first
  |(refine wpList_store_row rfl 69 (.tmp 8) (.tmp 24) rfl w1.heap.size _ rfl rfl 69 _ (Z5.at0 _ _) (by kernel_rfl) (by simp) (by simp[Value.oneCell']) ?_)
  |fail)
 generalize hX:World.setRow _ _ _=X;have aL:Below w1.heap.size w1 X:=by rw[<-hX];exact Y6 (ZW w1 _) (Qi _) _
 have ah:Hid (Z5 X w1.heap.size (.cells #[.int .i64 t.kind,.string t.text,.int .i64 t.cols,.slice A t.kids.length cap,.slice Ap p.length cp,.slice Am m.length cm,.slice Ar rr.length cr,.int .i64 ra,.int .i64 rb,.slice A1 q.length cp,.int .i64 o,.slice Ai its.length ci,.bool ar,.slice A2 q2.length c2,.int .i64 i,.int .i64 s,.int .i64 it.kind,.string it.text,.int .i64 it.cols,.slice A3 it.kids.length c3] 69)):=by show Z5 _ _ _;rw[<-hX];exact(Z5.at0 w1 _).row _
 have jb:Hid (w1.heap.size≠w.heap.size+1+1):=fun e=>Nat.lt_irrefl _ (e ▸ HG.out.lt)
 have HG:=hid (HG.out.below aL);have bR:=hid (aJ.out.trans (aL.mono aJ.out.size));have dX:=hid (ae.bl aL);have hf:=Tz ae;simp only at hf;have HF:=hid hf;obtain⟨gs,iH⟩:∃gs,w1.heap.size=gs:=⟨_,rfl⟩;simp only[iH] at ah jb ⊢;clear hX aL ae iH aJ hf;cases ar
 case false =>
  have HR:=hid (fQ.out (eO.out rfl));have gJ:X.cell? ⟨gs,12,none⟩=some (.bool false):=ah.out.cell 12;clear fQ fO eO eH
  go_wp2_with (first
   |(refine wpList_store_row rfl 35 (.tmp 6) (.tmp 33) rfl (w.heap.size+1+1) _ rfl rfl 35 _ HG.out (by kernel_rfl) (by simp) (by simp[Value.oneCell']) ?_)
   |fail)
  refine bodyPost_ret (v:=.tuple #[.agg #[.slice none 0 0,.slice none 0 0,.slice none 0 0,.slice none 0 0,.slice none 0 0],.int .i64 8]) (Y1 Tryz.results27 _ _ _ (w.heap.size+1+1) 35 _ (0,0) _ rfl (HG.out.row _) rfl Tryz.underlying35 (by kernel_rfl) _ rfl) rfl ?_;rw[HR.out];exact XI 8 (Y6 bR.out (by omega) _)
 case true =>
 have gJ:X.cell? ⟨gs,12,none⟩=some (.bool true):=ah.out.cell 12;have eX:X.cell? ⟨gs,16,none⟩=some (.int .i64 it.kind):=ah.out.cell 16;obtain⟨a1,gL,a3,a4,s',rfl,a6,a7⟩:=eH.out rfl;have dY:=hid (fO.out q2 i s' it a1 (by have h1:=fU.out;rw[h1,a4]) a6);have gq:=hid gL;have aY:Hid (q2.length<=60/\0<=i/\i<=1000/\0<=o/\o<=1000/\ZR it<=1000):=by
  have h1:=(zT3 dX.out).1;have h2:=fU.out;have:=HF.out;simp only at h1;rw[h2,a4] at h1;simp at h1;exact⟨by omega,(HF.out.2.2.2.2.2.2.2.1 rfl).1,(HF.out.2.2.2.2.2.2.2.1 rfl).2.1,by omega,by omega,a3⟩
 have fo:s'<it.kids.length:=a6;have fT:=hid dX.out.q2;have ek:=hid dX.out.it;simp only at fT ek;clear fQ fO eO eH HF a1 gL a3 a4 a6 a7 fU;have aN:Hid (∀W,Below X.heap.size X W->Z5 W gs (.cells #[.int .i64 t.kind,.string t.text,.int .i64 t.cols,.slice A t.kids.length cap,.slice Ap p.length cp,.slice Am m.length cm,.slice Ar rr.length cr,.int .i64 ra,.int .i64 rb,.slice A1 q.length cp,.int .i64 o,.slice Ai its.length ci,.bool true,.slice A2 q2.length c2,.int .i64 i,.int .i64 (s':Int),.int .i64 it.kind,.string it.text,.int .i64 it.cols,.slice A3 it.kids.length c3] 69)):=fun W hW=>ah.out.below hW
 by_cases aI:it.kind=12;rotate_left
 ·have HR:=hid (dY.out.1 aI);have iW:(it.kind != 12)=true:=by simpa using aI
  clear dY aI fo
  go_wp2_with (first
   |(refine wpList_store_row rfl 35 (.tmp 6) (.tmp 38) rfl (w.heap.size+1+1) _ rfl rfl 35 _ HG.out (by kernel_rfl) (by simp) (by simp[Value.oneCell']) ?_)
   |fail)
  refine bodyPost_ret (v:=.tuple #[.agg #[.slice none 0 0,.slice none 0 0,.slice none 0 0,.slice none 0 0,.slice none 0 0],.int .i64 7]) (Y1 Tryz.results27 _ _ _ (w.heap.size+1+1) 35 _ (0,0) _ rfl (HG.out.row _) rfl Tryz.underlying35 (by kernel_rfl) _ rfl) rfl ?_;rw[HR.out];exact XI 7 (Y6 bR.out (by omega) _)
 obtain⟨c,iL,c1,iV,fI,c5,hR⟩:=dY.out.2 aI;have iW:(it.kind != 12)=false:=by simpa using aI
 have jm:X.cell? ⟨gs,15,none⟩=some (.int .i64 (s':Int)):=ah.out.cell 15;have eU:X.cell? ⟨gs,18,none⟩=some (.int .i64 (c:Int)):=by rw[<-iL];exact ah.out.cell 18
 obtain⟨l9,cK⟩:∃l9,s' / c=l9:=⟨_,rfl⟩;obtain⟨r9,bQ⟩:∃r9,s' % c=r9:=⟨_,rfl⟩;have iI:c*l9+r9=s':=by rw[<-cK,<-bQ];exact Nat.div_add_mod s' c
 have bY:r9<c:=by rw[<-bQ];exact Nat.mod_lt _ (by omega)
 obtain⟨P9,iQ⟩:∃P,c*l9+c=P+1:=⟨c*l9+c-1,by omega⟩;have iC:l9<=256:=by
  have h1:1*l9<=c*l9:=Nat.mul_le_mul_right _ c1;omega
 obtain⟨own,aH⟩:∃own,Xp c s' columns=own:=⟨_,rfl⟩;have d9:Hid (own=if columns then c*l9+l9+r9 else s'):=by
  show own=_;rw[<-aH,Xp,cK,bQ,Nat.mul_add,Nat.mul_one,Nat.mul_comm l9 c]
 have dB:Hid (own<=1000):=by have:=d9.out;show own<=_;cases columns<;>simp at this<;>omega
 obtain⟨c',dh⟩:∃c':Int,(if columns then (c:Int)+1 else (c:Int))=c':=⟨_,rfl⟩;obtain⟨az,aM⟩:∃A9,Zi ZN c s' columns it.kids=A9:=⟨_,rfl⟩;have aO:Hid (∀k (hk:k<it.kids.length),az (k+1)=az k++(it.kids[k]::((if columns=true/\k % c=r9 then [Z7 []] else [])++(if columns=false/\k=P9 then List.replicate c ZN else [])))):=fun k hk=>by
  rw[<-aM,Zi,Va,cK,bQ,List.getD_eq_getElem?_getD,List.getElem?_eq_getElem hk];rw[show l9*c+c-1=P9 by rw[Nat.mul_comm l9 c];omega];rfl
 have aR:Hid (∀k,k<=256->(az k).length<=5000):=fun k hk=>by
  rw[<-aM];have h1:=zUe ZN c s' columns it.kids k;have h2:k*(c+2)<=256*18:=Nat.mul_le_mul hk (by omega);omega
 have bP:Hid (az 0=[]):=by show _=_;rw[<-aM];rfl
 obtain⟨LK,dU⟩:∃LK,Zi (Z7 []) c s' columns it.kids it.kids.length=LK:=⟨_,rfl⟩;have gy:Hid ((az it.kids.length).map VN=LK):=by show _=_;rw[<-aM,<-dU];exact zVs c s' columns it.kids c5 _ (Qi _)
 have dE:Hid (ZQ LK<=20000):=by
  have h1:=zUf c s' columns it.kids it.kids.length (Qi _);rw[dU,List.take_length] at h1;have h2:it.kids.length*(c+1)<=256*17:=Nat.mul_le_mul fI (by omega);have h3:=Xw it;have:=aY.out;show ZQ LK<=_;omega
 have HR:Hid (ax=YE t p m [⟨2,q2,i,0,[it],0,Zz,Zz⟩,⟨1,q2,i,0,[Z9.mk 12 Zz c' LK],0,Zz,Zz⟩] (q2++[i,(own:Int),o]) []):=by
  show ax=_;rw[hR,aH,dh,dU];rfl
 have eB:Hid (c'=(if columns then (c:Int)+1 else (c:Int))/\1<=c'/\c'<=20):=⟨dh.symm,by rw[<-dh];split<;>omega,by rw[<-dh];split<;>omega⟩;clear hR aI iL dY aM dU aH dh c5;have z1:((c:Int)==0)=false:=by rw[beq_eq_false_iff_ne];omega
 have z2:¬(c:Int)=0:=by omega
 have t1:(s':Int).tdiv (c:Int)=(l9:Int):=by rw[<-Int.ofNat_tdiv,cK]
 have t2:(s':Int).tmod (c:Int)=(r9:Int):=by rw[<-Int.ofNat_tmod,bQ]
 have w9:IntKind.i64.wrap (l9:Int)=(l9:Int):=IntWalk.i64_in _ (by omega);have jk:IntKind.i64.wrap (r9:Int)=(r9:Int):=IntWalk.i64_in _ (by omega);have af:Hid (c*l9+r9=s'/\r9<c/\c*l9+c=P9+1/\l9<=256/\1<=c/\c<=16/\s'<it.kids.length/\it.kids.length<=256):=⟨iI,bY,iQ,iC,c1,iV,fo,fI⟩;clear iI bY iQ iC c1 iV fo fI cK bQ
 go_upto_region 9 with fail
 go_quiet (fail)
 have fM:Hid (Below X.heap.size X (X.drewN nq)):=hid (Sj (Qg _ _));have iY:Hid (X.heap.size=(X.drewN nq).heap.size):=hid rfl;clear gJ eX jm eU iW t1 t2 w9 jk;generalize X.drewN nq=X2 at *
 go_upto_region 11 with fail
 generalize hY:World.alloc X2 _=Y;obtain⟨fD,aV⟩:Below X.heap.size X Y/\Z5 Y X2.heap.size (.cells #[.int .i64 12,.string Zz,.int .i64 (c:Int),.slice none 0 0] 24):=by rw[<-hY];exact⟨fM.out.trans ((ZW _ _).mono fM.out.size),Z5.at0 _ _⟩
 obtain⟨gl,bA⟩:∃gl,X2.heap.size=gl:=⟨_,rfl⟩;have aj:=hid (iY.out.trans bA);simp only[bA] at aV ⊢;have ak:=hid aV;have fK:=hid fD;have iZ:=hid (aN.out _ fD);have jr:Y.cell? ⟨gs,15,none⟩=some (.int .i64 (s':Int)):=iZ.out.cell 15;clear hY fD aV bA fM iY iZ
 go_upto_if 54 with fail
 clear jr
 go_cut [14] from 55 to 63 (fun sl wx=>sl=.int .i64 (own:Int)/\Z5 wx gl (.cells #[.int .i64 12,.string Zz,.int .i64 c',.slice none 0 0] 24)/\ZY (fun k=>k=gl) Y wx)
 case first =>
  cases columns
  case false =>
   have e1:own=s':=d9.out;have e2:c'=(c:Int):=eB.out.1;have jJ:=hid e1;have gD:=hid e2;clear e1 e2
   go_wp2_with fail
   go_meet;exact⟨by rw[jJ.out],by rw[gD.out];exact ak.out,ZY.of_below (Qg _ _) _⟩
  case true =>
   have e1:own=c*l9+l9+r9:=d9.out;have e2:c'=(c:Int)+1:=eB.out.1;have y2:Y.cell? ⟨gl,2,none⟩=some (.int .i64 (c:Int)):=ak.out.cell 2;have f2:Y.frozen? ⟨gl,2,none⟩=false:=ak.out.free 2;have v1:IntKind.i64.wrap ((c:Int)+1)=(c:Int)+1:=by have:=af.out;exact IntWalk.i64_in _ (by omega)
   obtain⟨Q9,iP⟩:∃Q,c*l9+l9=Q:=⟨_,rfl⟩;have v2:IntKind.i64.wrap ((l9:Int)*((c:Int)+1))=(Q9:Int):=by
    have e:(l9:Int)*((c:Int)+1)=(Q9:Int):=by rw[<-iP];push_cast;rw[Int.mul_add,Int.mul_one,Int.mul_comm]
    rw[e];have:=af.out;exact IntWalk.i64_in _ (by omega)
   have v3:IntKind.i64.wrap ((Q9:Int)+(r9:Int))=(own:Int):=by
    rw[show (Q9:Int)+(r9:Int)=(own:Int) by omega];have:=dB.out;exact IntWalk.i64_in _ (by omega)
   have gD:=hid e2;clear e1 e2 iP
   go_wp2_with fail
   go_meet;exact⟨rfl,by rw[gD.out];exact ak.out.set (i:=2) _,ZY.set Y ⟨gl,2,none⟩ _⟩
 case rest =>
 obtain⟨rfl,aV,iD⟩:=hcut;have ak:=hid aV;have eF:Hid (Below X.heap.size X wc):=fK.out.trans (iD.below fK.out.size (fun k e=>by rw[e,<-aj.out];exact Qi _));clear aV iD fK;generalize wc=w2 at *;have ah:=hid (ah.out.below eF.out);have eT:w2.cell? ⟨gs,19,none⟩=some (.slice A3 it.kids.length c3):=ah.out.cell 19;have au:Hid (∀W,Below X.heap.size X W->∀k,Lt X.heap.size k->k<W.heap.size):=fun W hW k hk=>Qk hk hW.size
 have dJ:Hid (∀k,Lt X.heap.size k->k<gl+1):=fun k hk=>by have h1:k<X.heap.size:=hk;have:=aj.out;omega
 have eu:Hid (∀k,Lt X.heap.size k->k≠gl):=fun k hk=>by have h1:k<X.heap.size:=hk;have:=aj.out;omega
 go_wp2_with fail
 clear eT
 go_loopw [68] (fun j wr=>Below X.heap.size X wr/\∃k:Nat,k<=it.kids.length/\j=.int .i64 k/\∃v,Z5 wr gl (.cells #[.int .i64 12,.string Zz,.int .i64 c',v] 24)/\Zq wr (gl+1) (Lt X.heap.size) (az k) v) (fun j _=>it.kids.length-(intOf j).toNat)
 case atStart=>exact⟨eF.out,0,Qj _,rfl,.slice none 0 0,ak.out,[],by rw[bP.out];exact World.ownsRow_nil _ _ _ _,by rw[bP.out];simp[ZG]⟩
 obtain⟨hb,k,hk,rfl,v,aV,aH⟩:=hrel;have HB:=hid hb;have ak:=hid aV;have ag:=hid aH;clear hb aV aH;by_cases cB:k<it.kids.length
 ·have av:=hid (aO.out k cB);have gG:=hid (aR.out k (by have:=af.out;omega));obtain⟨_,_,rs,hq,fC,fA,gU,iB⟩:=ek.out;cases hq;obtain⟨g,og,B9,b9,jq,rfl,hg,c0,c1,c2,c3,gM,gK,gN,gQ,gP,gT,iA⟩:=YW gU iB cB;have df:g<X.heap.size:=hg;have c0:wr.cell? ⟨g,og+k*4,none⟩=_:=(HB.out.cell (p:=⟨g,_,none⟩) df).trans c0;have c1:wr.cell? ⟨g,og+k*4+1,none⟩=_:=(HB.out.cell (p:=⟨g,_,none⟩) df).trans c1;have c2:wr.cell? ⟨g,og+k*4+2,none⟩=_:=(HB.out.cell (p:=⟨g,_,none⟩) df).trans c2;have c3:wr.cell? ⟨g,og+k*4+3,none⟩=_:=(HB.out.cell (p:=⟨g,_,none⟩) df).trans c3;have dF:Hid (∀W,Below X.heap.size X W->ZG Z6 W (Lt X.heap.size) [it.kids[k]] [.int .i64 it.kids[k].kind,.string it.kids[k].text,.int .i64 it.kids[k].cols,.slice B9 it.kids[k].kids.length b9]):=fun W hW=>ZG.single (Yl.2 ⟨_,rfl,gM,gK,gN,by have h9:Z8 Z6 X (Lt X.heap.size) it.kids[k].kids (.slice B9 it.kids[k].kids.length b9):=⟨_,_,jq,rfl,gQ,gP,gT,iA⟩;exact h9.keep (fun p hp=>hW.cell hp) (fun _ h=>h)⟩)
  have i0:(0:Int)<=(k:Int):=by omega
  have i1:(k:Int)<(it.kids.length:Int):=by omega
  clear gU iB fC fA gQ gP gT iA hg gM gK gN df;generalize it.kids[k]=jv at *;obtain⟨xk,xt,xc,xs⟩:=jv;simp only[Z9.kind,Z9.text,Z9.cols,Z9.kids] at c0 c1 c2 c3 dF
  go_upto_region 18 with fail
  generalize iN:World.alloc wr _=W1;obtain⟨bq,aL⟩:Below wr.heap.size wr W1/\Z5 W1 wr.heap.size (.cells #[.int .i64 xk,.string xt,.int .i64 xc,.slice B9 xs.length b9] 24):=by rw[<-iN];exact⟨ZW _ _,Z5.at0 _ _⟩
  have aJ:=hid (HB.out.trans (bq.mono HB.out.size));have bK:=hid (ak.out.below bq);have fV:=hid (ag.out.below (au.out _ HB.out) bq);obtain⟨gx,iG⟩:∃gx,wr.heap.size=gx:=⟨_,rfl⟩;simp only[iG] at aL ⊢;have d0:=aL.cell 0;have d1:=aL.cell 1;have d2:=aL.cell 2;have d3:=aL.cell 3;simp only[List.getElem?_toArray,List.getElem?_cons_zero,List.getElem?_cons_succ] at d0 d1 d2 d3;have y3:W1.cell? ⟨gl,3,none⟩=some v:=bK.out.cell 3;clear iN bq aL iG c0 c1 c2 c3 HB ak ag
  go_upto_region 19 with (first
   |(at_builtin;refine RS rfl _ _ rfl dJ.out rfl (fV.out.below (au.out _ aJ.out) (ZW _ _)) (fun k=>k=W1.heap.size) (some ⟨W1.heap.size,0,none⟩) 1 1 _ rfl rfl (fun _=>⟨W1.heap.size,0,rfl,rfl,fun j u hu=>by rw[Nat.zero_add];exact((Z5.at0 _ _).cell j).trans (by simpa using hu)⟩) (dF.out _ (aJ.out.trans ((ZW W1 _).mono aJ.out.size))) (by have:=gG.out;simp;omega) (by have:=bK.out.lt;simp;omega) ?_;intro v3a fJ bz bB;obtain⟨dN,bW,dw,rfl⟩:=bz.sl;have dC:=hid bz;have dK:=hid bB;have bL:=hid ((bK.out.al _).belowB bB (Nat.lt_succ_self _));have jh:fJ.cell? ⟨gl,3,none⟩=some v:=bL.out.cell 3;have jB:fJ.frozen? ⟨gl,3,none⟩=false:=bL.out.free 3;clear bz bB)
   |fail)
  generalize fF:World.setCell _ _ _=bu;have aG:ZY (fun k=>k=gl) fJ bu:=by rw[<-fF];exact ZY.set _ ⟨gl,3,none⟩ _
  have ay:Hid (Z5 bu gl (.cells #[.int .i64 12,.string Zz,.int .i64 c',.slice dN bW dw] 24)):=by show Z5 _ _ _;rw[<-fF];exact bL.out.set (i:=3) _
  have bG:=hid (aJ.out.trans ((Below.trans ((ZW W1 _).mono aJ.out.size) (dK.out.mono (by have:=aj.out;omega)))));have bU:=hid (bG.out.trans (aG.below bG.out.size (fun k e=>by rw[e,<-aj.out];exact Qi _)));have aX:=hid (dC.out.kept aG (Nat.lt_succ_self _) (fun k hk=>⟨au.out _ bG.out k hk,eu.out k hk⟩));clear fF aG dC jh jB y3;have z1:((c:Int)==0)=false:=by have:=af.out;rw[beq_eq_false_iff_ne];omega
  have z2:¬(c:Int)=0:=by have:=af.out;omega
  have t9:(k:Int).tmod (c:Int)=((k % c:Nat):Int):=(Int.ofNat_tmod k c).symm;have w9:IntKind.i64.wrap ((k % c:Nat):Int)=((k % c:Nat):Int):=by have:=af.out;have h2:=Nat.mod_lt k (show 0<c by omega);exact IntWalk.i64_in _ (by omega)
  have v9:IntKind.i64.wrap ((k:Int)+1)=(k:Int)+1:=by have:=af.out;exact IntWalk.i64_in _ (by omega)
  obtain⟨kc,iE⟩:∃kc,k % c=kc:=⟨_,rfl⟩;rw[iE] at t9 w9 av;clear iE;cases columns
  case true =>
   by_cases aK:kc=r9
   ·have e9:((kc:Int)==(r9:Int))=true:=by rw[aK];simp
    have bN:Hid (az (k+1)=az k++[Z9.mk xk xt xc xs]++[Z7 []]):=by show _=_;rw[av.out];simp[aK]
    clear aK av
    go_upto_region 20 with fail
    have y3:bu.cell? ⟨gl,3,none⟩=some (.slice dN bW dw):=ay.out.cell 3
    go_upto_region 21 with (first
     |(at_builtin;refine RS rfl _ _ rfl dJ.out rfl (aX.out.below (au.out _ bU.out) (ZW _ _)) (fun k=>k=bu.heap.size) (some ⟨bu.heap.size,0,none⟩) 1 1 _ rfl rfl (fun _=>⟨bu.heap.size,0,rfl,rfl,fun j u hu=>by rw[Nat.zero_add];exact((Z5.at0 _ _).cell j).trans (by simpa using hu)⟩) (ZG.single (show Z6.R _ _ (Z7 []) [.int .i64 1,.string ⟨#[]⟩,.int .i64 0,.slice none 0 0] from Yl.2 ⟨.slice none 0 0,rfl,by simp[Z4,Z7,Z9.kind],by simp[Z4,Z7,Z9.cols],Qj _,Z8.nil_ 0 (Qj _) none⟩)) (by have:=gG.out;simp;omega) (by have:=ay.out.lt;simp;omega) ?_;intro v3b bD aA aC;obtain⟨gI,fe,fH,rfl⟩:=aA.sl;have aP:=hid aA;have aQ:=hid aC;have aF:=hid ((ay.out.al _).belowB aC (Nat.lt_succ_self _));have eQ:bD.cell? ⟨gl,3,none⟩=some (.slice dN bW dw):=aF.out.cell 3;have fG:bD.frozen? ⟨gl,3,none⟩=false:=aF.out.free 3;clear aA aC)
     |fail)
    generalize bC:World.setCell _ _ _=dA;have aG:ZY (fun k=>k=gl) bD dA:=by rw[<-bC];exact ZY.set _ ⟨gl,3,none⟩ _
    have bI:Hid (Z5 dA gl (.cells #[.int .i64 12,.string Zz,.int .i64 c',.slice gI fe fH] 24)):=by show Z5 _ _ _;rw[<-bC];exact aF.out.set (i:=3) _
    have aD:=hid (bU.out.trans ((Below.trans ((ZW bu _).mono bU.out.size) (aQ.out.mono (by have:=aj.out;omega)))));have bM:=hid (aD.out.trans (aG.below aD.out.size (fun k e=>by rw[e,<-aj.out];exact Qi _)));have bH:=hid (aP.out.kept aG (Nat.lt_succ_self _) (fun k hk=>⟨au.out _ aD.out k hk,eu.out k hk⟩));clear bC aG aP eQ fG y3
    go_wp2_with fail
    go_roundw
    case rel=>exact⟨bM.out,k+1,by omega,by go_num,_,bI.out,by rw[bN.out];exact bH.out⟩
    case measure=>simp[intOf];omega
   have e9:((kc:Int)==(r9:Int))=false:=by rw[beq_eq_false_iff_ne];omega
   have bN:Hid (az (k+1)=az k++[Z9.mk xk xt xc xs]):=by show _=_;rw[av.out];simp[aK]
   clear aK av
   go_wp2_with fail
   go_roundw
   case rel=>exact⟨bU.out,k+1,by omega,by go_num,_,ay.out,by rw[bN.out];exact aX.out⟩
   case measure=>simp[intOf];omega
  case false =>
   have v1:IntKind.i64.wrap ((l9:Int)+1)=(l9:Int)+1:=by have:=af.out;exact IntWalk.i64_in _ (by omega)
   have v2:IntKind.i64.wrap (((l9:Int)+1)*(c:Int))=(P9:Int)+1:=by
    have e:((l9:Int)+1)*(c:Int)=(P9:Int)+1:=by
     have h9:((c*l9+c:Nat):Int)=((P9+1:Nat):Int):=by rw[af.out.2.2.1]
     push_cast at h9;rw[Int.add_mul,Int.one_mul,Int.mul_comm];exact h9
    rw[e];have:=af.out;exact IntWalk.i64_in _ (by omega)
   have v3:IntKind.i64.wrap (P9:Int)=(P9:Int):=by have:=af.out;exact IntWalk.i64_in _ (by omega)
   by_cases aK:k=P9
   ·have e9:((k:Int)==(P9:Int))=true:=by rw[aK];simp
    have bN:Hid (az (k+1)=az k++[Z9.mk xk xt xc xs]++List.replicate c ZN):=by show _=_;rw[av.out];simp[aK]
    clear aK av
    go_upto_region 22 with fail
    have y3:bu.cell? ⟨gl,3,none⟩=some (.slice dN bW dw):=ay.out.cell 3
    go_upto_region 23 with (first
     |(at_builtin;refine appZ rfl _ _ rfl dJ.out rfl aX.out c (by have:=af.out;omega) rfl (by have:=af.out;have:=gG.out;simp;omega) (by have:=ay.out.lt;omega) ?_;intro v2b bD aA aC;obtain⟨gI,fe,fH,rfl⟩:=aA.sl;have aP:=hid aA;have aQ:=hid aC;have aF:=hid (ay.out.belowB aC (Nat.lt_succ_self _));have eQ:bD.cell? ⟨gl,3,none⟩=some (.slice dN bW dw):=aF.out.cell 3;have fG:bD.frozen? ⟨gl,3,none⟩=false:=aF.out.free 3;clear aA aC)
     |fail)
    generalize bC:World.setCell _ _ _=dA;have aG:ZY (fun k=>k=gl) bD dA:=by rw[<-bC];exact ZY.set _ ⟨gl,3,none⟩ _
    have bI:Hid (Z5 dA gl (.cells #[.int .i64 12,.string Zz,.int .i64 c',.slice gI fe fH] 24)):=by show Z5 _ _ _;rw[<-bC];exact aF.out.set (i:=3) _
    have aD:=hid (bU.out.trans (aQ.out.mono (Nat.le_of_lt (by have:=aj.out;omega))));have bM:=hid (aD.out.trans (aG.below aD.out.size (fun k e=>by rw[e,<-aj.out];exact Qi _)));have bH:=hid (aP.out.kept aG (Nat.lt_succ_self _) (fun k hk=>⟨au.out _ aD.out k hk,eu.out k hk⟩));clear bC aG aP eQ fG y3
    go_wp2_with fail
    go_roundw
    case rel=>exact⟨bM.out,k+1,by omega,by go_num,_,bI.out,by rw[bN.out];exact bH.out⟩
    case measure=>simp[intOf];omega
   have e9:((k:Int)==(P9:Int))=false:=by rw[beq_eq_false_iff_ne];omega
   have bN:Hid (az (k+1)=az k++[Z9.mk xk xt xc xs]):=by show _=_;rw[av.out];simp[aK]
   clear aK av
   go_wp2_with fail
   go_roundw
   case rel=>exact⟨bU.out,k+1,by omega,by go_num,_,ay.out,by rw[bN.out];exact aX.out⟩
   case measure=>simp[intOf];omega
 have cO:k=it.kids.length:=by omega
 have iX:Hid (0<(az k).length):=by
  have h1:=congrArg List.length gy.out;show 0<_;have hn:=af.out;obtain⟨k1,jy⟩:∃k1,k=k1+1:=⟨k-1,by omega⟩;rw[jy,aO.out k1 (by omega)];simp;omega
 have jD:=hid (aR.out k (by have:=af.out;omega));have gu:Hid ((az k).map VN=LK):=by show _=_;rw[cO];exact gy.out
 have i1:¬(k:Int)<(it.kids.length:Int):=by omega
 generalize az k=Z at *;clear gy aO aR bP;obtain⟨gz,cz,rfl,iF,_,_⟩:=ag.out.some_ iX.out;have y3:wr.cell? ⟨gl,3,none⟩=some (.slice (some ⟨gz,0,none⟩) Z.length cz):=ak.out.cell 3;clear cO
 go_upto_region 25 with fail
 clear y3 i1
 go_loopw [113] (fun j wr=>Below X.heap.size X wr/\∃k:Nat,k<=Z.length/\j=.int .i64 k/\Z5 wr gl (.cells #[.int .i64 12,.string Zz,.int .i64 c',.slice (some ⟨gz,0,none⟩) Z.length cz] 24)/\Zq wr (gl+1) (Lt X.heap.size) (VO Z k) (.slice (some ⟨gz,0,none⟩) Z.length cz)) (fun j _=>Z.length-(intOf j).toNat)
 case atStart=>exact⟨HB.out,0,Qj _,rfl,ak.out,by simpa[VO] using ag.out⟩
 obtain⟨hb,k2,jw,rfl,cZ,bn⟩:=hrel;have HB:=hid hb;have ak:=hid cZ;have ag:=hid bn;clear hb cZ bn;by_cases cB:k2<Z.length
 ·have i0:(0:Int)<=(k2:Int):=by omega
  have i1:(k2:Int)<(Z.length:Int):=by omega
  have y3:wr.cell? ⟨gl,3,none⟩=some (.slice (some ⟨gz,0,none⟩) Z.length cz):=ak.out.cell 3;obtain⟨jA,cz2,gV,_,_,iJ⟩:=ag.out.some_ (by rw[zSi];omega);have cu:gz=jA:=by injection gV with h1 _ _;injection h1 with h1;injection h1
  obtain⟨⟨u9,c9⟩,f9⟩:=iJ (k2*4) (by rw[zSi];omega);rw[<-cu] at c9 f9;have jG:=hid (zTu Z cB);have hZl:Z.length<=5000:=jD.out;have v9:IntKind.i64.wrap ((k2:Int)+1)=(k2:Int)+1:=IntWalk.i64_in _ (by omega);clear gV cu iJ
  go_wp2_with fail
  go_roundw
  case rel =>
   have aG:ZY (fun k=>k=gz) wr (wr.setCell ⟨gz,k2*4,none⟩ (.int .i64 1)):=ZY.set wr ⟨gz,k2*4,none⟩ _;have hgg:gl<gz:=iF;refine⟨HB.out.trans (aG.below HB.out.size (fun k e=>by rw[e];have:=aj.out;omega)),k2+1,by omega,by go_num,aG.obj ak.out (by omega),?_⟩;have h9:=ag.out.kind (zSi Z k2).symm dJ.out iF k2;rw[jG.out] at h9;exact h9
  case measure=>simp[intOf];omega
 have cO:k2=Z.length:=by omega
 have ag:Hid (Zq wr (gl+1) (Lt X.heap.size) LK (.slice (some ⟨gz,0,none⟩) Z.length cz)):=by show Zq _ _ _ _ _;have h9:=ag.out;rw[cO,zUo,gu.out] at h9;exact h9
 have jC:Hid (Z.length=LK.length):=by show _=_;rw[<-gu.out];simp
 have i1:¬(k2:Int)<(Z.length:Int):=by omega
 generalize wr=w5 at *;have ah:=hid (aN.out _ HB.out);have eZ:w5.cell? ⟨gs,13,none⟩=some (.slice A2 q2.length c2):=ah.out.cell 13;have eY:w5.cell? ⟨gs,14,none⟩=some (.int .i64 i):=ah.out.cell 14;have eX:w5.cell? ⟨gs,16,none⟩=some (.int .i64 it.kind):=ah.out.cell 16;have jl:w5.cell? ⟨gs,17,none⟩=some (.string it.text):=ah.out.cell 17;have eU:w5.cell? ⟨gs,18,none⟩=some (.int .i64 it.cols):=ah.out.cell 18;have eT:w5.cell? ⟨gs,19,none⟩=some (.slice A3 it.kids.length c3):=ah.out.cell 19;clear cO gu iX cB jw
 go_upto_region 30 with (first
  |(refine wpList_store_row rfl 49 (.tmp 18) (.tmp 129) rfl (w5.heap.size+1) _ rfl rfl 49 _ (Z5.at1 _ _ _) (by kernel_rfl) (by simp) (by simp[Value.oneCell']) ?_)
  |fail)
 clear eZ eY eX jl eU eT i1;generalize iO:World.setRow _ _ _=V1;obtain⟨dR,fB,dQ⟩:Below w5.heap.size w5 V1/\Z5 V1 w5.heap.size (.cells #[.int .i64 it.kind,.string it.text,.int .i64 it.cols,.slice A3 it.kids.length c3] 24)/\Z5 V1 (w5.heap.size+1) (.cells #[.int .i64 2,.slice A2 q2.length c2,.int .i64 i,.int .i64 0,.slice (some ⟨w5.heap.size,0,none⟩) 1 1,.int .i64 0,.string Zz,.string Zz] 49):=by
  rw[<-iO];refine⟨Y6 (Zy (ZW _ _) _) (Nat.le_succ _) _,?_,(Z5.at1 _ _ _).row _⟩;exact(setRow_other _ _ _ _ (by omega)).trans ((Z5.at0 _ _).al _)
 obtain⟨g1,gZ⟩:∃g1,w5.heap.size=g1:=⟨_,rfl⟩;have bJ:=hid ak.out.lt;simp only[gZ] at fB dQ bJ ⊢;obtain⟨g2,gY⟩:∃g2,g1+1=g2:=⟨_,rfl⟩;simp only[gY] at dQ ⊢;have dI:=hid fB;have jc:=hid dQ;have ag:=hid (ag.out.below (au.out _ HB.out) dR);have ak:=hid (ak.out.below dR);have HB:=hid (HB.out.trans (dR.mono HB.out.size));clear iO dR fB dQ gZ;have ah:=hid (aN.out _ HB.out);have eZ:V1.cell? ⟨gs,13,none⟩=some (.slice A2 q2.length c2):=ah.out.cell 13;have eY:V1.cell? ⟨gs,14,none⟩=some (.int .i64 i):=ah.out.cell 14;have y0:V1.cell? ⟨gl,0,none⟩=some (.int .i64 12):=ak.out.cell 0;have y1:V1.cell? ⟨gl,1,none⟩=some (.string Zz):=ak.out.cell 1;have y2:V1.cell? ⟨gl,2,none⟩=some (.int .i64 c'):=ak.out.cell 2;have y3:V1.cell? ⟨gl,3,none⟩=some (.slice (some ⟨gz,0,none⟩) Z.length cz):=ak.out.cell 3
 go_upto_region 31 with (first
  |(refine wpList_store_row rfl 49 (.tmp 19) (.tmp 136) rfl (V1.heap.size+1) _ rfl rfl 49 _ (Z5.at1 _ _ _) (by kernel_rfl) (by simp) (by simp[Value.oneCell']) ?_)
  |fail)
 clear eZ eY y0 y1 y2 y3;generalize hV:World.setRow _ _ _=V;obtain⟨di,dP,dO⟩:Below V1.heap.size V1 V/\Z5 V V1.heap.size (.cells #[.int .i64 12,.string Zz,.int .i64 c',.slice (some ⟨gz,0,none⟩) Z.length cz] 24)/\Z5 V (V1.heap.size+1) (.cells #[.int .i64 1,.slice A2 q2.length c2,.int .i64 i,.int .i64 0,.slice (some ⟨V1.heap.size,0,none⟩) 1 1,.int .i64 0,.string Zz,.string Zz] 49):=by
  rw[<-hV];refine⟨Y6 (Zy (ZW _ _) _) (Nat.le_succ _) _,?_,(Z5.at1 _ _ _).row _⟩;exact(setRow_other _ _ _ _ (by omega)).trans ((Z5.at0 _ _).al _)
 obtain⟨g3,gX⟩:∃g3,V1.heap.size=g3:=⟨_,rfl⟩;simp only[gX] at dP dO ⊢;obtain⟨g4,gW⟩:∃g4,g3+1=g4:=⟨_,rfl⟩;simp only[gW] at dO ⊢;have jI:Hid (g2≠w.heap.size+1+1):=fun e=>by have h1:=HG.out.lt;have h2:=bJ.out;have h3:=aj.out;omega
 have jH:Hid (g4≠w.heap.size+1+1):=fun e=>by have h1:=HG.out.lt;have h2:=HB.out.size;omega
 have gm:=hid (jc.out.below di);have fZ:=hid dO;have dI:=hid (dI.out.below di);have ag:=hid (ag.out.below (au.out _ HB.out) di);have aS:=hid (HB.out.trans (di.mono HB.out.size));have HG:=hid (HG.out.below aS.out);have ah:=hid (aN.out _ aS.out);have bR:=hid (bR.out.trans (aS.out.mono bR.out.size));obtain⟨LT,dS⟩:∃LT,Z9.mk 12 Zz c' LK=LT:=⟨_,rfl⟩;rw[dS] at HR;have dG:=hid (ek.out.below aS.out aS.out.size);have aW:=hid (fT.out.below aS.out aS.out.size);have bg:Z8 Z6 V (Lt V.heap.size) [it] (.slice (some ⟨g1,0,none⟩) 1 1):=zHs (E:=Z6) (cs:=[.int .i64 it.kind,.string it.text,.int .i64 it.cols,.slice A3 it.kids.length c3]) dI.out (Yl.2 ⟨_,rfl,gq.out.1,gq.out.2.1,gq.out.2.2,dG.out⟩) dI.out.lt;have aZ:Z8 Z6 V (Lt V.heap.size) [LT] (.slice (some ⟨g3,0,none⟩) 1 1):=by
  rw[<-dS];refine zHs (E:=Z6) (cs:=[.int .i64 12,.string Zz,.int .i64 c',.slice (some ⟨gz,0,none⟩) Z.length cz]) dP (Yl.2 ⟨_,rfl,by simp[Z4,Z9.kind],YU (by have:=eB.out;simp only[Z9.cols];omega),Qj _,?_⟩) dP.lt;exact ag.out.rows (au.out _ aS.out)
 have dD:Hid (ZQ [LT]<=1000000):=by show _<=_;rw[<-dS];have:=dE.out;simp only[ZQ,ZR];omega
 have dH:Hid (ZQ [it]<=1000000):=by have:=aY.out;show ZR it+0<=_;omega
 have jK:Hid (∀W B,Below V.heap.size V W->BA V W B #[.int .i64 t.kind,.string t.text,.int .i64 t.cols,.slice A t.kids.length cap,.slice Ap p.length cp,.slice Am m.length cm,.slice Ar rr.length cr,.int .i64 ra,.int .i64 rb,.slice A1 q.length cp,.int .i64 o,.slice Ai its.length ci,.bool true,.slice A2 q2.length c2,.int .i64 i,.int .i64 (s':Int),.int .i64 it.kind,.string it.text,.int .i64 it.cols,.slice A3 it.kids.length c3] [⟨2,q2,i,0,[it],0,Zz,Zz⟩,⟨1,q2,i,0,[LT],0,Zz,Zz⟩] (q2++[i,(own:Int),o]) []->Calls Tryz.prog 48 #[.pointer (some ⟨B,0,none⟩)] W (ZC V ax)):=fun W B hW hb=>(RD dX.out (aS.out.trans (hW.mono aS.out.size)) hb (by simp)).mono (fun e w' h=>by rw[HR.out];exact h)
 have gF:Hid (∀(W:World) (F:Nat->Prop) (B:Nat),BS V W F B #[.int .i64 t.kind,.string t.text,.int .i64 t.cols,.slice A t.kids.length cap,.slice Ap p.length cp,.slice Am m.length cm,.slice Ar rr.length cr,.int .i64 ra,.int .i64 rb,.slice A1 q.length cp,.int .i64 o,.slice Ai its.length ci,.bool true,.slice A2 q2.length c2,.int .i64 i,.int .i64 (s':Int),.int .i64 it.kind,.string it.text,.int .i64 it.cols,.slice A3 it.kids.length c3] []->Calls Tryz.prog 45 #[.pointer (some ⟨B,0,none⟩),.agg #[.int .i64 2,.slice A2 q2.length c2,.int .i64 i,.int .i64 0,.slice (some ⟨g1,0,none⟩) 1 1,.int .i64 0,.string Zz,.string Zz]] W fun e w'=>∃F',e=.returned (.pointer (some ⟨B,0,none⟩))/\BS V w' F' B #[.int .i64 t.kind,.string t.text,.int .i64 t.cols,.slice A t.kids.length cap,.slice Ap p.length cp,.slice Am m.length cm,.slice Ar rr.length cr,.int .i64 ra,.int .i64 rb,.slice A1 q.length cp,.int .i64 o,.slice Ai its.length ci,.bool true,.slice A2 q2.length c2,.int .i64 i,.int .i64 (s':Int),.int .i64 it.kind,.string it.text,.int .i64 it.cols,.slice A3 it.kids.length c3] [⟨2,q2,i,0,[it],0,Zz,Zz⟩]/\YX F F' W w'):=fun W F B hb=>XO hb ⟨2,q2,i,0,[it],0,Zz,Zz⟩ A2 (some ⟨g1,0,none⟩) c2 1 (by simp) (aW.out.below hb.below hb.below.size) (bg.below hb.below hb.below.size) (by have:=aY.out;show q2.length<=_;omega) dH.out (by simp[Z4]) (YU (by have:=aY.out;show _<=i/\i<=_;omega)) (by simp[Z4]) (by simp[Z4]) (Qj _) (Qj _)
 have eD:Hid (∀(W:World) (F:Nat->Prop) (B:Nat),BS V W F B #[.int .i64 t.kind,.string t.text,.int .i64 t.cols,.slice A t.kids.length cap,.slice Ap p.length cp,.slice Am m.length cm,.slice Ar rr.length cr,.int .i64 ra,.int .i64 rb,.slice A1 q.length cp,.int .i64 o,.slice Ai its.length ci,.bool true,.slice A2 q2.length c2,.int .i64 i,.int .i64 (s':Int),.int .i64 it.kind,.string it.text,.int .i64 it.cols,.slice A3 it.kids.length c3] [⟨2,q2,i,0,[it],0,Zz,Zz⟩]->Calls Tryz.prog 45 #[.pointer (some ⟨B,0,none⟩),.agg #[.int .i64 1,.slice A2 q2.length c2,.int .i64 i,.int .i64 0,.slice (some ⟨g3,0,none⟩) 1 1,.int .i64 0,.string Zz,.string Zz]] W fun e w'=>∃F',e=.returned (.pointer (some ⟨B,0,none⟩))/\BS V w' F' B #[.int .i64 t.kind,.string t.text,.int .i64 t.cols,.slice A t.kids.length cap,.slice Ap p.length cp,.slice Am m.length cm,.slice Ar rr.length cr,.int .i64 ra,.int .i64 rb,.slice A1 q.length cp,.int .i64 o,.slice Ai its.length ci,.bool true,.slice A2 q2.length c2,.int .i64 i,.int .i64 (s':Int),.int .i64 it.kind,.string it.text,.int .i64 it.cols,.slice A3 it.kids.length c3] [⟨2,q2,i,0,[it],0,Zz,Zz⟩,⟨1,q2,i,0,[LT],0,Zz,Zz⟩]/\YX F F' W w'):=fun W F B hb=>XO hb ⟨1,q2,i,0,[LT],0,Zz,Zz⟩ A2 (some ⟨g3,0,none⟩) c2 1 (by simp) (aW.out.below hb.below hb.below.size) (aZ.below hb.below hb.below.size) (by have:=aY.out;show q2.length<=_;omega) dD.out (by simp[Z4]) (YU (by have:=aY.out;show _<=i/\i<=_;omega)) (by simp[Z4]) (by simp[Z4]) (Qj _) (Qj _)
 have HW:Hid (Below V.heap.size V V):=hid (Qg _ _);have eP:Hid (∀x∈[i,(own:Int),o],Z4 x):=fun x hx=>by have:=aY.out;have:=dB.out;simp at hx;exact YU (by omega)
 have HL:Hid (q2.length+[i,(own:Int),o].length<=100000):=by have:=aY.out;show q2.length+3<=_;omega
 have ed:=jb;have dZ:Hid (∀W,Below V.heap.size V W->Z0 W (Lt W.heap.size) q2 (.slice A2 q2.length c2)):=fun W hW=>aW.out.below hW hW.size
 clear hV di dP dO gY gX gW bg aZ dS dI jc ag ak dG aW bJ HR af d9 eB dJ eu au aN HB ek fT dE aY dH dD;refine wp_region_noPanic ?_;refine wp_region_held_drew (S:=fun w'=>ZY (fun k=>k=w.heap.size+1+1) V w') (by kernel_rfl) (kwt HW.out) (fun hHeld=>?_);refine wpAnyH_take (i:=0) (oi:=⟨some 137,_,_,_,_,_⟩) (v:=_) rfl (by kernel_rfl) (by kernel_rfl) (by kernel_rfl) (fun _ _ _ h=>h) (Xh 69 (.tmp 8) rfl (by rfl) _ rfl (fun w hS=>hS.obj ah.out ed.out) Tryz.underlying69 (by kernel_rfl)) hHeld ?_
 try simp only[qP,qN,qS,qZ,qC]
 refine wpAnyH_take (i:=2) (oi:=⟨some 139,_,_,_,_,_⟩) (v:=_) rfl (by kernel_rfl) (by kernel_rfl) (by kernel_rfl) (fun _ _ _ h=>h) (Xh 49 (.tmp 18) rfl (by rfl) _ rfl (fun w hS=>hS.obj gm.out jI.out) Tryz.underlying49 (by kernel_rfl)) hHeld ?_
 try simp only[qP,qN,qS,qZ,qC]
 refine wpAnyH_take (i:=4) (oi:=⟨some 141,_,_,_,_,_⟩) (v:=_) rfl (by kernel_rfl) (by kernel_rfl) (by kernel_rfl) (fun _ _ _ h=>h) (Xh 49 (.tmp 19) rfl (by rfl) _ rfl (fun w hS=>hS.obj fZ.out jH.out) Tryz.underlying49 (by kernel_rfl)) hHeld ?_
 try simp only[qP,qN,qS,qZ,qC]
 refine wpAnyH_take (i:=6) (oi:=⟨some 143,_,_,_,_,_⟩) (v:=_) rfl (by kernel_rfl) (by kernel_rfl) (by kernel_rfl) (fun _ _ _ h=>h) (Or.inl ⟨by rfl,fun w hS=>by clear hS;go_simp;try with_reducible rfl⟩) hHeld ?_
 try simp only[qP,qN,qS,qZ,qC]
 refine wpAnyH_take (i:=7) (oi:=⟨some 144,_,_,_,_,_⟩) (v:=_) rfl (by kernel_rfl) (by kernel_rfl) (by kernel_rfl) (fun _ _ _ h=>h) (Or.inl ⟨by rfl,fun W hS=>by have h:W.cell? ⟨gs,13,none⟩=some (.slice A2 q2.length c2):=(hS.obj ah.out ed.out).cell 13;clear hS;go_simp;try with_reducible rfl⟩) hHeld ?_
 try simp only[qP,qN,qS,qZ,qC]
 refine wpAnyH_take (i:=8) (oi:=⟨some 145,_,_,_,_,_⟩) (v:=_) rfl (by kernel_rfl) (by kernel_rfl) (by kernel_rfl) (fun _ _ _ h=>h) (Or.inl ⟨by rfl,fun w hS=>by clear hS;go_simp;try with_reducible rfl⟩) hHeld ?_
 try simp only[qP,qN,qS,qZ,qC]
 refine wpAnyH_take (i:=9) (oi:=⟨some 146,_,_,_,_,_⟩) (v:=_) rfl (by kernel_rfl) (by kernel_rfl) (by kernel_rfl) (fun _ _ _ h=>h) (Or.inl ⟨by rfl,fun W hS=>by have h:W.cell? ⟨gs,14,none⟩=some (.int .i64 i):=(hS.obj ah.out ed.out).cell 14;clear hS;go_simp;try with_reducible rfl⟩) hHeld ?_
 try simp only[qP,qN,qS,qZ,qC]
 refine wpAnyH_take (i:=10) (oi:=⟨some 147,_,_,_,_,_⟩) (v:=_) rfl (by kernel_rfl) (by kernel_rfl) (by kernel_rfl) (fun _ _ _ h=>h) (Or.inl ⟨by rfl,fun w hS=>by clear hS;go_simp;try with_reducible rfl⟩) hHeld ?_
 try simp only[qP,qN,qS,qZ,qC]
 refine wpAnyH_take (i:=11) (oi:=⟨some 148,_,_,_,_,_⟩) (v:=_) rfl (by kernel_rfl) (by kernel_rfl) (by kernel_rfl) (fun _ _ _ h=>h) (Or.inl ⟨by rfl,fun w hS=>by clear hS;go_simp;try with_reducible rfl⟩) hHeld ?_
 try simp only[qP,qN,qS,qZ,qC]
 refine wpAnyH_take (i:=12) (oi:=⟨some 149,_,_,_,_,_⟩) (v:=_) rfl (by kernel_rfl) (by kernel_rfl) (by kernel_rfl) (fun _ _ _ h=>h) (Or.inl ⟨by rfl,fun W hS=>by have h:W.cell? ⟨gs,10,none⟩=some (.int .i64 o):=(hS.obj ah.out ed.out).cell 10;clear hS;go_simp;try with_reducible rfl⟩) hHeld ?_
 try simp only[qP,qN,qS,qZ,qC]
 refine wpAnyH_ready (rs:=[1,13]) (by kernel_rfl) (by simp) ?_;refine(AllReadyH.cons (o:=⟨some 138,_,_,_,_,_⟩) rfl (fun K hK=>?_) (AllReadyH.cons (o:=⟨some 150,_,_,_,_,_⟩) rfl (fun K hK=>?_) AllReadyH.nil));go_simp;refine Calls.mono (Wx _ _ _ _ _ _ _ _ _ _ _ _ _ _ _ _ _ _ _ _  V _ (bwt HW.out)) ?_;rintro e wk ⟨B,F,rfl,aa,ae⟩
 try have HR:=hid (YX.keep ae (Zv bw HR.out))
 have HB:=hid aa;have aT:=HB;have HW:=hid aa.below;clear ae aa;refine hK.out _ _ (kwt HW.out) (fun hHeld=>?_);clear hK K
 try simp only[qP,qN,qS,qZ,qC]
 refine wpAnyH_ready (rs:=[3,13]) (by kernel_rfl) (by simp) ?_;refine(AllReadyH.cons (o:=⟨some 140,_,_,_,_,_⟩) rfl (fun K hK=>?_) (AllReadyH.cons (o:=⟨some 150,_,_,_,_,_⟩) rfl (fun K hK=>?_) AllReadyH.nil));go_simp;refine Calls.mono (gF.out _ _ _ (HB.out.bl bw)) ?_;rintro e wk ⟨F,rfl,aa,ae⟩
 try have HR:=hid (YX.keep ae (Zv bw HR.out))
 have HB:=hid aa;have aT:=HB;have HW:=hid aa.below;clear ae aa;refine hK.out _ _ (kwt HW.out) (fun hHeld=>?_);clear hK K
 try simp only[qP,qN,qS,qZ,qC]
 refine wpAnyH_ready (rs:=[5,13]) (by kernel_rfl) (by simp) ?_;refine(AllReadyH.cons (o:=⟨some 142,_,_,_,_,_⟩) rfl (fun K hK=>?_) (AllReadyH.cons (o:=⟨some 150,_,_,_,_,_⟩) rfl (fun K hK=>?_) AllReadyH.nil));go_simp;refine Calls.mono (eD.out _ _ _ (HB.out.bl bw)) ?_;rintro e wk ⟨F,rfl,aa,ae⟩
 try have HR:=hid (YX.keep ae (Zv bw HR.out))
 have HB:=hid aa;have aT:=HB;have HW:=hid aa.below;clear ae aa;refine hK.out _ _ (kwt HW.out) (fun hHeld=>?_);clear hK K
 try simp only[qP,qN,qS,qZ,qC]
 refine wpAnyH_ready (rs:=[13]) (by kernel_rfl) (by simp) ?_;refine(AllReadyH.cons (o:=⟨some 150,_,_,_,_,_⟩) rfl (fun K hK=>?_) AllReadyH.nil);go_simp;refine hK.out _ _ (kwt HW.out) (fun hHeld=>?_);clear hK K
 try simp only[qP,qN,qS,qZ,qC]
 refine wpAnyH_ready (rs:=[14]) (by kernel_rfl) (by simp) ?_;refine(AllReadyH.cons (o:=⟨some 151,_,_,_,_,_⟩) rfl (fun K hK=>?_) AllReadyH.nil);go_simp;refine Calls.mono (XN (HB.out.bl bw) q2 [i,(own:Int),o] _ _ _ _ (dZ.out _ (HB.out.bl bw).below) (TZ _ [i,(own:Int),o] _ (eP.out) (by simp[maxLen])) (HL.out)) ?_;rintro e wk ⟨rfl,aB⟩;have HB:=hid aB;have HW:=hid aB.below;clear aB;refine hK.out _ _ (kwt HW.out) (fun hHeld=>?_);clear hK K
 try simp only[qP,qN,qS,qZ,qC]
 rotate_left;go_simp;refine hK.out _ _ (kwt HW.out) (fun hHeld=>?_);clear hK K
 try simp only[qP,qN,qS,qZ,qC]
 refine wpAnyH_ready (rs:=[5]) (by kernel_rfl) (by simp) ?_;refine(AllReadyH.cons (o:=⟨some 142,_,_,_,_,_⟩) rfl (fun K hK=>?_) AllReadyH.nil);go_simp;refine Calls.mono (eD.out _ _ _ (HB.out.bl bw)) ?_;rintro e wk ⟨F,rfl,aa,ae⟩;have HR:=hid (Ty [i,(own:Int),o] (eP.out) (by simp[maxLen]) ((BS.bl aT.out bw).hi) ae);have HB:=hid aa;have aT:=HB;have HW:=hid aa.below;clear ae aa;refine hK.out _ _ (kwt HW.out) (fun hHeld=>?_);clear hK K
 try simp only[qP,qN,qS,qZ,qC]
 refine wpAnyH_ready (rs:=[14]) (by kernel_rfl) (by simp) ?_;refine(AllReadyH.cons (o:=⟨some 151,_,_,_,_,_⟩) rfl (fun K hK=>?_) AllReadyH.nil);go_simp;refine Calls.mono (XN (HB.out.bl bw) q2 [i,(own:Int),o] _ _ _ _ (dZ.out _ (HB.out.bl bw).below) (YZ (Zv bw HR.out)) (HL.out)) ?_;rintro e wk ⟨rfl,aB⟩;have HB:=hid aB;have HW:=hid aB.below;clear aB;refine hK.out _ _ (kwt HW.out) (fun hHeld=>?_);clear hK K
 try simp only[qP,qN,qS,qZ,qC]
 rotate_left;go_simp;refine hK.out _ _ (kwt HW.out) (fun hHeld=>?_);clear hK K
 try simp only[qP,qN,qS,qZ,qC]
 refine wpAnyH_ready (rs:=[3]) (by kernel_rfl) (by simp) ?_;refine(AllReadyH.cons (o:=⟨some 140,_,_,_,_,_⟩) rfl (fun K hK=>?_) AllReadyH.nil);go_simp;refine Calls.mono (gF.out _ _ _ (HB.out.bl bw)) ?_;rintro e wk ⟨F,rfl,aa,ae⟩;have HR:=hid (Ty [i,(own:Int),o] (eP.out) (by simp[maxLen]) ((BS.bl aT.out bw).hi) ae);have HB:=hid aa;have aT:=HB;have HW:=hid aa.below;clear ae aa;refine hK.out _ _ (kwt HW.out) (fun hHeld=>?_);clear hK K
 try simp only[qP,qN,qS,qZ,qC]
 refine wpAnyH_ready (rs:=[5]) (by kernel_rfl) (by simp) ?_;refine(AllReadyH.cons (o:=⟨some 142,_,_,_,_,_⟩) rfl (fun K hK=>?_) AllReadyH.nil);go_simp;refine Calls.mono (eD.out _ _ _ (HB.out.bl bw)) ?_;rintro e wk ⟨F,rfl,aa,ae⟩
 try have HR:=hid (YX.keep ae (Zv bw HR.out))
 have HB:=hid aa;have aT:=HB;have HW:=hid aa.below;clear ae aa;refine hK.out _ _ (kwt HW.out) (fun hHeld=>?_);clear hK K
 try simp only[qP,qN,qS,qZ,qC]
 refine wpAnyH_ready (rs:=[14]) (by kernel_rfl) (by simp) ?_;refine(AllReadyH.cons (o:=⟨some 151,_,_,_,_,_⟩) rfl (fun K hK=>?_) AllReadyH.nil);go_simp;refine Calls.mono (XN (HB.out.bl bw) q2 [i,(own:Int),o] _ _ _ _ (dZ.out _ (HB.out.bl bw).below) (YZ (Zv bw HR.out)) (HL.out)) ?_;rintro e wk ⟨rfl,aB⟩;have HB:=hid aB;have HW:=hid aB.below;clear aB;refine hK.out _ _ (kwt HW.out) (fun hHeld=>?_);clear hK K
 try simp only[qP,qN,qS,qZ,qC]
 rotate_left;go_simp;refine hK.out _ _ (kwt HW.out) (fun hHeld=>?_);clear hK K
 try simp only[qP,qN,qS,qZ,qC]
 refine wpAnyH_ready (rs:=[1]) (by kernel_rfl) (by simp) ?_;refine(AllReadyH.cons (o:=⟨some 138,_,_,_,_,_⟩) rfl (fun K hK=>?_) AllReadyH.nil);go_simp;refine Calls.mono (Wx _ _ _ _ _ _ _ _ _ _ _ _ _ _ _ _ _ _ _ _  V _ (bwt HW.out)) ?_;rintro e wk ⟨B,F,rfl,aa,ae⟩;have HR:=hid (zJ6 [i,(own:Int),o] (eP.out) (by simp[maxLen]) (fun _ h=>False.elim h) ae);have HB:=hid aa;have aT:=HB;have HW:=hid aa.below;clear ae aa;refine hK.out _ _ (kwt HW.out) (fun hHeld=>?_);clear hK K
 try simp only[qP,qN,qS,qZ,qC]
 refine wpAnyH_ready (rs:=[3]) (by kernel_rfl) (by simp) ?_;refine(AllReadyH.cons (o:=⟨some 140,_,_,_,_,_⟩) rfl (fun K hK=>?_) AllReadyH.nil);go_simp;refine Calls.mono (gF.out _ _ _ (HB.out.bl bw)) ?_;rintro e wk ⟨F,rfl,aa,ae⟩
 try have HR:=hid (YX.keep ae (Zv bw HR.out))
 have HB:=hid aa;have aT:=HB;have HW:=hid aa.below;clear ae aa;refine hK.out _ _ (kwt HW.out) (fun hHeld=>?_);clear hK K
 try simp only[qP,qN,qS,qZ,qC]
 refine wpAnyH_ready (rs:=[5]) (by kernel_rfl) (by simp) ?_;refine(AllReadyH.cons (o:=⟨some 142,_,_,_,_,_⟩) rfl (fun K hK=>?_) AllReadyH.nil);go_simp;refine Calls.mono (eD.out _ _ _ (HB.out.bl bw)) ?_;rintro e wk ⟨F,rfl,aa,ae⟩
 try have HR:=hid (YX.keep ae (Zv bw HR.out))
 have HB:=hid aa;have aT:=HB;have HW:=hid aa.below;clear ae aa;refine hK.out _ _ (kwt HW.out) (fun hHeld=>?_);clear hK K
 try simp only[qP,qN,qS,qZ,qC]
 refine wpAnyH_ready (rs:=[14]) (by kernel_rfl) (by simp) ?_;refine(AllReadyH.cons (o:=⟨some 151,_,_,_,_,_⟩) rfl (fun K hK=>?_) AllReadyH.nil);go_simp;refine Calls.mono (XN (HB.out.bl bw) q2 [i,(own:Int),o] _ _ _ _ (dZ.out _ (HB.out.bl bw).below) (YZ (Zv bw HR.out)) (HL.out)) ?_;rintro e wk ⟨rfl,aB⟩;have HB:=hid aB;have HW:=hid aB.below;clear aB;refine hK.out _ _ (kwt HW.out) (fun hHeld=>?_);clear hK K
 try simp only[qP,qN,qS,qZ,qC]
 rotate_left
 all_goals
  refine wpAnyH_ready (rs:=[15]) (by kernel_rfl) (by simp) ?_;refine(AllReadyH.cons (o:=⟨some 152,_,_,_,_,_⟩) rfl (fun K hK=>?_) AllReadyH.nil);go_simp;refine Calls.mono (jK.out _ _ (bwt HW.out) (HB.out.bl bw)) ?_;rintro e wk bZ;have fP:=hid bZ;obtain⟨je,iT,jd,iR,jf,iU,dL,dx,dM,dz,rfl,_,_,_,_,_,fE⟩:=bZ;have HW:=hid fE;have gB:=hid (HG.out.below fE);clear fE;refine hK.out _ _ (kwt HW.out) (fun hHeld=>?_);clear hK K
  try simp only[qP,qN,qS,qZ,qC]
  refine wpAnyH_take (i:=16) (oi:=⟨some 153,_,_,_,_,_⟩) (v:=_) rfl (by kernel_rfl) (by kernel_rfl) (by kernel_rfl) (fun _ _ _ h=>h) (Or.inl ⟨by rfl,fun w hS=>by clear hS;go_simp;try with_reducible rfl⟩) hHeld ?_
  try simp only[qP,qN,qS,qZ,qC]
  refine wpAnyH_take (i:=17) (oi:=⟨some 154,_,_,_,_,_⟩) (v:=_) rfl (by kernel_rfl) (by kernel_rfl) (by kernel_rfl) (fun _ _ _ h=>h) (Or.inl ⟨by rfl,fun w hS=>by clear hS;go_simp;try with_reducible rfl⟩) hHeld ?_
  try simp only[qP,qN,qS,qZ,qC]
  refine wpAnyH_ready (rs:=[18]) (by kernel_rfl) (by simp) ?_;refine(AllReadyH.cons (o:=⟨none,_,_,_,_,_⟩) rfl (fun K hK=>?_) AllReadyH.nil);rw[if_pos (by rfl)];refine wp_store_row 35 (.tmp 6) (.tmp 153) rfl (w.heap.size+1+1) #[.slice je ax.1.ops.length iT,.slice jd ax.1.bp.length iR,.slice jf ax.1.bm.length iU,.slice dL ax.1.ap.length dx,.slice dM ax.1.am.length dz] rfl rfl 35 _ gB.out (by kernel_rfl) (by simp) (by simp[Value.oneCell']) ?_;refine Rx gB.out (fun X9 dV=>?_);refine hK.out _ _ ((kwt HW.out).trans' dV.out.1) (fun hHeld=>?_);clear hK K
  try simp only[qP,qN,qS,qZ,qC]
  refine wpAnyH_take (i:=19) (oi:=⟨some 7,_,_,_,_,_⟩) (v:=_) rfl (by kernel_rfl) (by kernel_rfl) (by kernel_rfl) (fun _ _ _ h=>h) (Or.inl ⟨by rfl,fun w hS=>by clear hS;go_simp;try with_reducible rfl⟩) hHeld ?_
  try simp only[qP,qN,qS,qZ,qC]
  refine wpAnyH_done (by kernel_rfl) ?_ _;refine NoPanic.normal ?_
 all_goals
  refine(‹∀(a:Act) (ji:World),Code.wp Tryz.prog Code.ret (bodyPost Tryz.prog Tryz.f27 (ZC w ax)) a ji->_›) _ _ (wp_ret ?_);refine bodyPost_ret (v:=.tuple #[.agg #[.slice je ax.1.ops.length iT,.slice jd ax.1.bp.length iR,.slice jf ax.1.bm.length iU,.slice dL ax.1.ap.length dx,.slice dM ax.1.am.length dz],.int .i64 ax.2]) (Y1 Tryz.results27 _ _ _ (w.heap.size+1+1) 35 _ (0,0) _ rfl dV.out.2.1 rfl Tryz.underlying35 (by kernel_rfl) _ rfl) rfl ?_;exact ZC.put (arr:=#[]) fP.out gB.out dV.out.1 dV.out.2.2 bR.out (by omega)
