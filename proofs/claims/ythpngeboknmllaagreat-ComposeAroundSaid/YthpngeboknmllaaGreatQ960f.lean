/- T -/
import Derived.Test.YthpngeboknmllaaGreatQ8237
import Derived.Test.YthpngeboknmllaaGreatQ474e
import Derived.Test.YthpngeboknmllaaGreatQ12ff
set_option linter.unusedVariables false
set_option linter.unusedSimpArgs false
set_option maxHeartbeats 16000000
set_option maxRecDepth 100000
namespace Go.Proofs.YthpngeboknmllaaGreat
open Go.RowKit
theorem zU0 (t:Z9) (p m:List Int) (A Ap Am:Option Addr) (cap cp cm:Nat) (w:World) (hv:Z8 Z7 w (Lt w.heap.size) t.kids (.slice A t.kids.length cap)) (dz:Zt t) (dD:ZW t<=900000) (hp:Z0 w (Lt w.heap.size) p (.slice Ap p.length cp)) (hm:Z0 w (Lt w.heap.size) m (.slice Am m.length cm)) (dx:p.length<=90000) (dB:m.length<=90000) :
  Calls Tryz.prog 25 #[.agg #[.int .i64 t.kind,.string t.text,.int .i64 t.cols,.slice A t.kids.length cap],.agg #[.slice Ap p.length cp,.slice Am m.length cm]] w (Zg w (XM t p m)):=by
 obtain⟨W0,dU,dH,aZ,aY,dK⟩:=Ty t p m A Ap Am cap cp cm w;have eB:=hid aZ;have eu:=hid aY;have aS:=hid dH;have bJ:=hid (RV t p m A Ap Am cap cp cm w);have CL:Hid (∀W,Below w.heap.size w W->Calls Tryz.prog 42 #[.agg #[.int .i64 t.kind,.string t.text,.int .i64 t.cols,.slice A t.kids.length cap],.agg #[.slice Ap p.length cp,.slice Am m.length cm]] W _):=fun W hW=>zSh t p m A Ap Am cap cp cm W (hv.below hW hW.size) dz dD (hp.below hW hW.size) (hm.below hW hW.size) dx dB
 have HE:=hid (zSp t p m);obtain⟨af,aH⟩:∃af,XM t p m=af:=⟨_,rfl⟩;rw[aH] at HE ⊢;obtain⟨m0,m1,m2,m3,n0,n1⟩:=bJ.out W0 aZ aY;clear hv dz dD hp hm dx dB dH aZ aY aH;go_enter Tryz.func25,Tryz.ntmps25
 go_wp2_with fail
 refine(CL.out _ aS.out).mono ?_;rintro e w1 ⟨bn,h1⟩;have HG:=hid (dK.out.below bn);have aR:=hid (aS.out.trans (bn.mono aS.out.size));clear bn m0 m1 m2 m3 n0 n1 CL aS dU dK eB eu;rcases h1 with ⟨he,rfl⟩|⟨he,rr,Ar,cr,ra,rb,q,A1,o,its,Ai,ci,ar,q2,A2,c2,i,s,it,A3,c3,rfl,az⟩
 ·have HR:=hid (HE.out.1 he);have hse:((ZI t p m).2 != 0)=true:=by simp[he]
  clear HE he;generalize (ZI t p m).2=se at *
  go_upto_region 2 with (first
   |(refine sR 69 6 15 (Z5.at0 _ _) ?_)
   |fail)
  generalize hX:World.setRow _ _ _=X;have eH:=hid (Te hX aR.out);have HG:=hid (Td hX HG.out);clear hX
  go_wp2_with (first
   |(refine sR 35 4 19 HG.out ?_)
   |fail)
  refine Yr Tryz.results25 Tryz.underlying35 (.int .i64 se) (HG.out.row _) ?_;rw[HR.out];exact Uy se (YV eH.out (by omega) _)
 have ak:=az.of;have aX:=az.pe;simp only at ak aX;have dA:(ZI t p m).2=0:=by rw[ak]
 have aU:=hid az.ar0;have aT:=hid az.ar1;simp only at aU aT;have bD:=hid (HE.out.2.1 dA);have bB:=hid (fun a b c d e=>HE.out.2.2 rr ra rb a b c d e o ak);have dJ:=hid aX;simp only[UB];clear HE he dA ak aX
 go_upto_region 2 with (first
  |(refine sR 69 6 15 (Z5.at0 _ _) ?_)
  |fail)
 generalize hX:World.setRow _ _ _=X;have aO:=YL hX;have aa:=hid (XK hX);have HG:=hid (HG.out.below aO);have ai:=hid (aR.out.trans (aO.mono aR.out.size));have aI:=hid (az.bl aO);have hf:=RI az;simp only at hf;have HF:=hid hf;obtain⟨gs,dC⟩:∃gs,w1.heap.size=gs:=⟨_,rfl⟩;simp only[dC] at aa ⊢;clear hX aO az dC aR hf;cases ar
 case false =>
  have HR:=hid (bD.out (aU.out rfl));have aN:X.cell? ⟨gs,12,none⟩=some (.bool false):=aa.out.cell 12;clear bD bB aU aT
  go_wp2_with (first
   |(refine sR 35 4 24 HG.out ?_)
   |fail)
  refine Yr Tryz.results25 Tryz.underlying35 (.int .i64 8) (HG.out.row _) ?_;rw[HR.out];exact Uy 8 (YV ai.out (by omega) _)
 case true =>
 have aN:X.cell? ⟨gs,12,none⟩=some (.bool true):=aa.out.cell 12;obtain⟨a1,cO,a3,a4,s',rfl,a6,a7⟩:=aT.out rfl;have aQ:=hid (bB.out q2 i s' it its a1 (by have h1:=dJ.out;rw[h1,a4]) a6 a7);have dL:=hid cO;have ah:Hid (q.length<=90000/\q2.length<=90000/\0<=i/\i<=1000/\its.length<=1000/\0<=o/\o<=its.length/\ZT its<=1000):=by
  have:=HF.out;exact⟨by omega,(HF.out.2.2.2.2.2.2.2.1 rfl).2.2,(HF.out.2.2.2.2.2.2.2.1 rfl).1,(HF.out.2.2.2.2.2.2.2.1 rfl).2.1,by omega,by omega,by omega,by omega⟩
 obtain⟨k,rfl⟩:∃k:Nat,o=(k:Int):=⟨o.toNat,by have:=ah.out;omega⟩;have hk:k<=its.length:=by have:=ah.out;omega
 have bH:=hid aI.out.q2;have HQ:=hid aI.out.q;have aK:=hid aI.out.its;simp only at bH HQ aK;have eG:Hid (∀w0 W B ops pos am,Below X.heap.size X W->BA w0 W B #[.int .i64 t.kind,.string t.text,.int .i64 t.cols,.slice A t.kids.length cap,.slice Ap p.length cp,.slice Am m.length cm,.slice Ar rr.length cr,.int .i64 ra,.int .i64 rb,.slice A1 q.length cp,.int .i64 (k:Int),.slice Ai its.length ci,.bool true,.slice A2 q2.length c2,.int .i64 i,.int .i64 (s':Int),.int .i64 it.kind,.string it.text,.int .i64 it.cols,.slice A3 it.kids.length c3] ops pos am->ops.length<=1000->Calls Tryz.prog 48 #[.pointer (some ⟨B,0,none⟩)] W (Zg w0 (XW t p m ops pos am))):=fun w0 W B ops pos am hW hb hl=>zPi aI.out hW hb hl
 have av:Hid (∀W,Below X.heap.size X W->Z5 W gs (.cells #[.int .i64 t.kind,.string t.text,.int .i64 t.cols,.slice A t.kids.length cap,.slice Ap p.length cp,.slice Am m.length cm,.slice Ar rr.length cr,.int .i64 ra,.int .i64 rb,.slice A1 q.length cp,.int .i64 (k:Int),.slice Ai its.length ci,.bool true,.slice A2 q2.length c2,.int .i64 i,.int .i64 (s':Int),.int .i64 it.kind,.string it.text,.int .i64 it.cols,.slice A3 it.kids.length c3] 69)):=fun W hW=>aa.out.below hW
 have aD:=hid (fun (W:World) (x0 x1 x2 x3 x4 x5 x6 x9 cu bZ bY bW bU bR bQ bP bN bM:Value)=>(zK4 x0 x1 x2 x3 x4 x5 x6 x9 cu bZ bY bW bU bR bQ bP bN bM ra rb W:Calls Tryz.prog 43 #[.agg #[x0,x1,x2,x3,x4,x5,x6,.int .i64 ra,.int .i64 rb,x9,cu,bZ,bY,bW,bU,bR,bQ,bP,bN,bM]] W (Xg W (decide (ra<rb)))));have dP:=hid a4;clear bD bB aU aT HF aI a1 cO a3 a4 a6 a7 dJ;by_cases hc:ra<rb\/(it.kind≠11/\it.kind≠10)
 ·have HR:=hid (aQ.out.1 hc);clear aQ;by_cases aF:ra<rb
  ·have hd:decide (ra<rb)=true:=by simpa using aF
   rw[hd] at aD;clear hd aF hc
   go_wp2_with (first
    |(refine lR 69 6 aa.out Tryz.underlying69 ?_)
    |fail)
   refine Calls.mono (aD.out _ _ _ _ _ _ _ _ _ _ _ _ _ _ _ _ _ _ _) ?_;rintro e w2 ⟨rfl,ag⟩;have aj:=hid ag;have ay:w2.cell? ⟨gs,16,none⟩=some (.int .i64 it.kind):=(aa.out.below ag).cell 16;clear ag
   go_upto_region 7 with fail
   have HG:=hid (HG.out.below aj.out);have ai:=hid (ai.out.trans (aj.out.mono ai.out.size));clear aj ay aN
   go_wp2_with (first
    |(refine sR 35 4 39 HG.out ?_)
    |fail)
   refine Yr Tryz.results25 Tryz.underlying35 (.int .i64 7) (HG.out.row _) ?_;rw[HR.out];exact Uy 7 (YV ai.out (by omega) _)
  have hd:decide (ra<rb)=false:=by simpa using aF
  rw[hd] at aD;have bg:it.kind≠11/\it.kind≠10:=hc.resolve_left aF;have bA:(it.kind != 11)=true:=by simpa using bg.1
  have dI:(it.kind != 10)=true:=by simpa using bg.2
  clear hd aF hc bg
  go_wp2_with (first
   |(refine lR 69 6 aa.out Tryz.underlying69 ?_)
   |fail)
  refine Calls.mono (aD.out _ _ _ _ _ _ _ _ _ _ _ _ _ _ _ _ _ _ _) ?_;rintro e w2 ⟨rfl,ag⟩;have aj:=hid ag;have ay:w2.cell? ⟨gs,16,none⟩=some (.int .i64 it.kind):=(aa.out.below ag).cell 16;clear ag
  go_upto_region 7 with fail
  have HG:=hid (HG.out.below aj.out);have ai:=hid (ai.out.trans (aj.out.mono ai.out.size));clear aj ay aN
  go_wp2_with (first
   |(refine sR 35 4 39 HG.out ?_)
   |fail)
  refine Yr Tryz.results25 Tryz.underlying35 (.int .i64 7) (HG.out.row _) ?_;rw[HR.out];exact Uy 7 (YV ai.out (by omega) _)
 obtain⟨dh,hR⟩:=aQ.out.2 hc;obtain⟨L,hL⟩:∃L,its.drop k=L:=⟨_,rfl⟩;have dV:its.length-k=L.length:=by rw[<-hL];simp
 obtain⟨A9,aW,hcut⟩:=Wn Z7 Tryz.underlying22 VZ Ai its.length ci (k:Int) k rfl hk;rw[dV] at aW hcut;generalize ci-k=c9 at aW hcut;have aC:Hid (∀W,Below X.heap.size X W->Z8 Z7 W (Lt W.heap.size) L (.slice A9 L.length c9)):=fun W hW=>by
  have h9:=hcut W _ its (aK.out.below hW hW.size);rwa[hL] at h9
 have dM:Hid (ZT L<=1000/\L.length<=1000):=⟨by rw[<-hL];exact QP (zD4 its k) ah.out.2.2.2.2.2.2.2,by have:=ah.out;omega⟩;obtain⟨IT,aP⟩:∃IT,Z9.mk it.kind it.text 0 [Z6 L]=IT:=⟨_,rfl⟩;have aL:Hid (∀W g1 g2,Z5 W g1 (.cells #[.int .i64 1,.string ZQ,.int .i64 0,.slice A9 L.length c9] 24)->Z5 W g2 (.cells #[.int .i64 it.kind,.string it.text,.int .i64 0,.slice (some ⟨g1,0,none⟩) 1 1] 24)->Z8 Z7 W (Lt W.heap.size) L (.slice A9 L.length c9)->Z8 Z7 W (Lt W.heap.size) [IT] (.slice (some ⟨g2,0,none⟩) 1 1)):=fun W g1 g2 h1 h2 h3=>by
  rw[<-aP];exact TG (E:=Z7) (cs:=[.int .i64 it.kind,.string it.text,.int .i64 0,.slice (some ⟨g1,0,none⟩) 1 1]) h2 (YI.2 ⟨_,rfl,dL.out.1,by simp[Z4,Z9.cols],dL.out.2.2,TG (E:=Z7) (cs:=[.int .i64 1,.string ZQ,.int .i64 0,.slice A9 L.length c9]) h1 (YI.2 ⟨_,rfl,by simp[Z4,Z6,Z9.kind],by simp[Z4,Z6,Z9.cols],QU _,h3⟩) h1.lt⟩) h2.lt
 have aM:Hid (ZT [IT]<=1000000):=by show _<=_;rw[<-aP];have:=dM.out.1;simp[ZT,ZW,Z6];omega
 have HR:Hid (af=XW t p m ((if (k:Int)<(its.length:Int) then [Yn q (k:Int) L] else [])++[Yc q2 (i+1) [IT]]) (q2++[i+1,0,0]) []):=by
  show af=_;rw[hR,zT4,Int.toNat_natCast,hL,aP,dP.out,dh];rfl
 have eD:Hid (it.kind=11\/it.kind=10):=by show _\/_;omega
 have hd:decide (ra<rb)=false:=by rw[decide_eq_false_iff_not];omega
 rw[hd] at aD;clear hc hR aQ hd aP dP dh;obtain⟨bA,aG⟩:∃b,(it.kind != 11)=b:=⟨_,rfl⟩;have aB:bA=true->(it.kind != 10)=false:=fun h=>by rw[<-aG] at h;have h1:=eD.out;simp at h ⊢;omega
 cases bA
 case' true =>
  have dI:(it.kind != 10)=false:=aB rfl;clear aB
 case' false=>clear aB
 all_goals
  go_wp2_with (first
   |(refine lR 69 6 aa.out Tryz.underlying69 ?_)
   |fail)
  refine Calls.mono (aD.out _ _ _ _ _ _ _ _ _ _ _ _ _ _ _ _ _ _ _) ?_;rintro e w2 ⟨rfl,ag⟩;have aj:=hid ag;have ay:w2.cell? ⟨gs,16,none⟩=some (.int .i64 it.kind):=(aa.out.below ag).cell 16;clear ag
  go_upto_region 8 with fail
  have aa:=hid (aa.out.below aj.out);clear ay aN aG
  try clear dI
  go_upto_region 9 with (first
   |(refine lR 69 6 aa.out Tryz.underlying69 ?_)
   |(go_at_call 44;refine Calls.mono (RU _ _ _ _ _ _ _ _ _ _ _ _ _ _ _ _ _ _ _ _ X _ aj.out) ?_;rintro e wb ⟨B,F,rfl,au,_⟩;have df:=(au.bl (QQ _ _)).below;have HB:=hid au;clear au)
   |fail)
  have aa:Hid (Z5 wb gs (.cells #[.int .i64 t.kind,.string t.text,.int .i64 t.cols,.slice A t.kids.length cap,.slice Ap p.length cp,.slice Am m.length cm,.slice Ar rr.length cr,.int .i64 ra,.int .i64 rb,.slice A1 q.length cp,.int .i64 (k:Int),.slice Ai its.length ci,.bool true,.slice A2 q2.length c2,.int .i64 i,.int .i64 (s':Int),.int .i64 it.kind,.string it.text,.int .i64 it.cols,.slice A3 it.kids.length c3] 69)):=av.out _ df;clear df;have aV:wb.cell? ⟨gs,10,none⟩=some (.int .i64 (k:Int)):=aa.out.cell 10;have dR:wb.cell? ⟨gs,11,none⟩=some (.slice Ai its.length ci):=aa.out.cell 11
  go_upto_region 10 with fail
  clear aV dR aW;rcases Nat.eq_zero_or_pos L.length with hz|hz
  case' inl =>
   have i5:decide ((0:Int)<(L.length:Int))=false:=by rw[decide_eq_false_iff_not];omega
   have cZ:decide (0<L.length)=false:=by rw[decide_eq_false_iff_not];omega
   obtain⟨ae,h1⟩:∃ae:List ZB,ae=[]:=⟨_,rfl⟩;have HB:Hid (BS X wb F B #[.int .i64 t.kind,.string t.text,.int .i64 t.cols,.slice A t.kids.length cap,.slice Ap p.length cp,.slice Am m.length cm,.slice Ar rr.length cr,.int .i64 ra,.int .i64 rb,.slice A1 q.length cp,.int .i64 (k:Int),.slice Ai its.length ci,.bool true,.slice A2 q2.length c2,.int .i64 i,.int .i64 (s':Int),.int .i64 it.kind,.string it.text,.int .i64 it.cols,.slice A3 it.kids.length c3] ae):=by rw[h1];exact HB
   have HR:Hid (af=XW t p m (ae++[Yc q2 (i+1) [IT]]) (q2++[i+1,0,0]) []):=by have h2:=HR.out;rw[if_neg (by omega)] at h2;rw[h1];exact h2
   have aJ:Hid (ae.length<=1):=by rw[h1];exact QU _
   clear h1 hz
   go_upto_region 12 with fail
   generalize wb=w9 at *;generalize F=F9 at *
  case' inr =>
   have i5:decide ((0:Int)<(L.length:Int))=true:=by rw[decide_eq_true_eq];omega
   have cZ:decide (0<L.length)=true:=by rw[decide_eq_true_eq];omega
   have HR:Hid (af=XW t p m ([Yn q (k:Int) L]++[Yc q2 (i+1) [IT]]) (q2++[i+1,0,0]) []):=by have h2:=HR.out;rw[if_pos (by omega)] at h2;exact h2
   have s9:wb.cell? ⟨gs,9,none⟩=some (.slice A1 q.length cp):=aa.out.cell 9;have aV:wb.cell? ⟨gs,10,none⟩=some (.int .i64 (k:Int)):=aa.out.cell 10;clear hz
   go_upto_region 12 with (first
    |(go_at_call 45;refine Calls.mono (TQ HB.out (Yn q (k:Int) L) A1 A9 cp c9 (by simp) (HQ.out.below HB.out.below HB.out.below.size) (aC.out _ HB.out.below) (QP ah.out.1 (by decide)) (QP dM.out.1 (by decide)) (by simp[Yn,Z4]) (YS (by have:=ah.out;simp only[Yn];omega)) (by simp[Yn,Z4]) (by simp[Yn,Z4]) (QU _) (QU _)) ?_;rintro e w9 ⟨F9,rfl,au,_⟩;have HB:Hid (BS X w9 F9 B #[.int .i64 t.kind,.string t.text,.int .i64 t.cols,.slice A t.kids.length cap,.slice Ap p.length cp,.slice Am m.length cm,.slice Ar rr.length cr,.int .i64 ra,.int .i64 rb,.slice A1 q.length cp,.int .i64 (k:Int),.slice Ai its.length ci,.bool true,.slice A2 q2.length c2,.int .i64 i,.int .i64 (s':Int),.int .i64 it.kind,.string it.text,.int .i64 it.cols,.slice A3 it.kids.length c3] [Yn q (k:Int) L]):=hid au;clear au)
    |fail)
   have aJ:Hid ([Yn q (k:Int) L].length<=1):=QT _;generalize [Yn q (k:Int) L]=ae at HB HR aJ;clear s9 aV
  all_goals
   have aa:=hid (av.out _ HB.out.below);have ay:w9.cell? ⟨gs,16,none⟩=some (.int .i64 it.kind):=aa.out.cell 16;have dQ:w9.cell? ⟨gs,17,none⟩=some (.string it.text):=aa.out.cell 17;clear i5 cZ
   go_upto_region 13 with fail
   clear ay dQ;generalize hY:World.alloc (World.alloc w9 _) _=Y;have dE:Below w9.heap.size w9 Y:=by rw[<-hY];exact Zq (ZX _ _) _
   have bi:Z5 Y w9.heap.size (.cells #[.int .i64 1,.string ZQ,.int .i64 0,.slice A9 L.length c9] 24):=by rw[<-hY];exact(Z5.at0 _ _).al _
   have ax:Z5 Y (w9.heap.size+1) (.cells #[.int .i64 it.kind,.string it.text,.int .i64 0,.slice (some ⟨w9.heap.size,0,none⟩) 1 1] 24):=by rw[<-hY];exact Z5.at1 _ _ _
   clear hY;have HB:=hid (HB.out.bl dE);obtain⟨g1,dw⟩:∃g1,w9.heap.size=g1:=⟨_,rfl⟩;simp only[dw] at bi ax ⊢;obtain⟨g2,dn⟩:∃g2,g1+1=g2:=⟨_,rfl⟩;simp only[dn] at ax ⊢;have dN:=hid bi;have eF:=hid ax;have aa:=hid (av.out _ HB.out.below);have y0:Y.cell? ⟨g2,0,none⟩=some (.int .i64 it.kind):=ax.cell 0;have y1:Y.cell? ⟨g2,1,none⟩=some (.string it.text):=ax.cell 1;have y2:Y.cell? ⟨g2,2,none⟩=some (.int .i64 0):=ax.cell 2;have y3:Y.cell? ⟨g2,3,none⟩=some (.slice (some ⟨g1,0,none⟩) 1 1):=ax.cell 3;have cK:Y.cell? ⟨gs,13,none⟩=some (.slice A2 q2.length c2):=aa.out.cell 13;have cB:Y.cell? ⟨gs,14,none⟩=some (.int .i64 i):=aa.out.cell 14;have v1:IntKind.i64.wrap (i+1)=i+1:=by have:=ah.out;exact IntWalk.i64_in _ (by omega)
   clear bi ax dE dw dn
   go_upto_region 14 with (first
    |(go_at_call 45;refine Calls.mono (TQ (HB.out.bl (ZX _ _)) (Yc q2 (i+1) [IT]) A2 _ c2 1 (QP aJ.out (by decide)) (bH.out.below (HB.out.bl (ZX _ _)).below (HB.out.bl (ZX _ _)).below.size) (aL.out _ _ _ (dN.out.al _) (Z5.at0 _ _) (aC.out _ (HB.out.bl (ZX _ _)).below)) (QP ah.out.2.1 (by decide)) aM.out (by simp[Yc,Z4]) (YS (by have:=ah.out;simp only[Yc];omega)) (by simp[Yc,Z4]) (by simp[Yc,Z4]) (QU _) (QU _)) ?_;rintro e w8 ⟨F8,rfl,au,_⟩;have HB:=hid au;clear au)
    |fail)
   clear y0 y1 y2 y3 cK cB dN eF aL aM aC;have bG:Hid (af=XW t p m (ae++[Yc q2 (i+1) [IT]]) (q2++[i+1,0,0]) []/\(ae++[Yc q2 (i+1) [IT]]).length<=2):=⟨HR.out,by have:=aJ.out;simp;omega⟩;generalize ae++[Yc q2 (i+1) [IT]]=dS at HB bG;have ek:Hid (q2.length+[i+1,(0:Int),0].length<=100000):=by have:=ah.out;show q2.length+3<=_;omega
   have eO:Hid (∀x∈[i+1,(0:Int),0],Z4 x):=fun x hx=>by have:=ah.out;simp at hx;exact YS (by omega)
   have aa:=hid (av.out _ HB.out.below);have cK:w8.cell? ⟨gs,13,none⟩=some (.slice A2 q2.length c2):=aa.out.cell 13;have cB:w8.cell? ⟨gs,14,none⟩=some (.int .i64 i):=aa.out.cell 14;have dm:=bH.out.below HB.out.below HB.out.below.size;have ed:=hid dm;clear dm HR aJ
   go_wp2_with (first
    |(go_at_call 47;refine Calls.mono (UI (HB.out.bl (ZX _ _)) q2 [i+1,0,0] A2 _ c2 _ (ed.out.below (ZX _ _) (ZX _ _).size) (zNu _ [i+1,0,0] _ eO.out (by simp[maxLen])) ek.out) ?_;rintro e w5 ⟨rfl,dG⟩;have dO:=hid dG;clear dG)
    |(go_at_call 48;refine Calls.mono (eG.out _ _ _ _ _ _ dO.out.below dO.out (QP bG.out.2 (by decide))) ?_;rintro e wk aA;rw[<-bG.out.1] at aA;have bC:=hid aA;obtain⟨eQ,dY,eP,dX,eT,dZ,bK,bu,bL,bz,rfl,_,_,_,_,_,dF⟩:=aA;have bI:=hid (HG.out.below dF);clear dF)
    |(refine wpList_store_row rfl 35 (.tmp 4) (.tmp 87) rfl (w.heap.size+1+1) #[.slice eQ af.1.ops.length dY,.slice eP af.1.bp.length dX,.slice eT af.1.bm.length dZ,.slice bK af.1.ap.length bu,.slice bL af.1.am.length bz] rfl rfl 35 _ bI.out (by kernel_rfl) (by simp) (by simp[Value.oneCell']) ?_)
    |fail)
   refine Yr Tryz.results25 Tryz.underlying35 (.int .i64 af.2) (bI.out.row _) ?_;exact Zg.put (arr:=#[]) bC.out bI.out (ZZ.setRow _ _ _) (size_setRow _ _ _) ai.out (by omega)
theorem zQx {w:World} {S:Nat->Prop} {t:Z9} {p m:List Int} {v:Value} (hv:Z8 Z7 w S t.kids v) (h:(ZI t p m).2=0) (af:p.length<=90000) {d:UV} (hd:Zz t p=some d) :
  Zt d.item/\ZW d.item<=1000/\d.row.length<=90000/\0<=d.at_/\d.at_<=1000/\∃s':Nat,d.own=s'/\s'<d.item.kids.length:=by
 have h3:3<=p.length:=by
  unfold Zz at hd;split at hd
  ·cases hd
  omega
 obtain⟨q2,i,s,o,ae⟩:∃q2 i s o,p=q2++[i,s]++[o]:=by
  have h4:(p.drop (p.length-3)).length=3:=by simp;omega
  obtain⟨a,b,c,e⟩:∃a b c,p.drop (p.length-3)=[a,b,c]:=by
   match hL:p.drop (p.length-3),h4 with
   |[a,b,c],_=>exact⟨a,b,c,rfl⟩
  exact⟨p.take (p.length-3),a,b,c,by rw[List.append_assoc];show p=_++[a,b,c];rw[<-e,List.take_append_drop]⟩
 obtain⟨g1,g2,g3,s',g4,g5,_⟩:=zMe hv h ae;rw[g1] at hd;cases hd;obtain⟨ag,aa,_⟩:=VM h;rw[ae] at aa;obtain⟨h4,hi,_⟩:=Tc aa;have hc:=Vq t q2;have hkc:=Yz (ZM t q2).1;have hvc:=(X0 ag).1;exact⟨g2,g3,by rw[ae] at af;simp at af;show q2.length<=_;omega,hi.1,by have:=hi.2;show i<=_;omega,s',g4,g5⟩
theorem UF {x:UV} {s':Nat} (h1:ZW x.item<=1000) (h2:x.own=s'):QZ [Zf x]:=⟨by simp,fun op h=>by
 rw[List.mem_singleton.1 h];have h9:=Tf x.item s' (Z6 []) 1 (fun _=>by show 1+0<=_;omega);show ZW (Y0 x.item x.own.toNat (Z6 []))+0<=_;rw[h2,Int.toNat_natCast];omega⟩
theorem zWj (t:Z9) (p m:List Int):((ZI t p m).2≠0->Xd t p m=(Zo,(ZI t p m).2))/\((ZI t p m).2=0->Zz t p=none->Xd t p m=(Zo,8))/\((ZI t p m).2=0->∀x,Zz t p=some x->Xd t p m=XW t p m [Zf x] (Uz (Zf x) p false) []):=by
 refine⟨fun h=>?_,fun h h1=>?_,fun h x h1=>?_⟩
 ·unfold Xd;rw[if_pos h]
 ·unfold Xd;rw[if_neg (by simp[h]),h1]
 unfold Xd;rw[if_neg (by simp[h]),h1];rfl
theorem zV7 (t:Z9) (p m:List Int) (A Ap Am:Option Addr) (cap cp cm:Nat) (w:World) (hv:Z8 Z7 w (Lt w.heap.size) t.kids (.slice A t.kids.length cap)) (aV:Zt t) (aZ:ZW t<=900000) (hp:Z0 w (Lt w.heap.size) p (.slice Ap p.length cp)) (hm:Z0 w (Lt w.heap.size) m (.slice Am m.length cm)) (bM:p.length<=90000) (bQ:m.length<=90000) :
  Calls Tryz.prog 38 #[.agg #[.int .i64 t.kind,.string t.text,.int .i64 t.cols,.slice A t.kids.length cap],.agg #[.slice Ap p.length cp,.slice Am m.length cm]] w (Zv w (Xd t p m)):=by
 have HE:=hid (zWj t p m);obtain⟨W0,dG,cO,aY,aX,dn⟩:=Ty t p m A Ap Am cap cp cm w;have ak:=hid aY;have aj:=hid aX;have aR:=hid cO;have aM:=hid (RV t p m A Ap Am cap cp cm w);have CC:Hid (∀W,Below w.heap.size w W->Calls Tryz.prog 69 #[.agg #[.int .i64 t.kind,.string t.text,.int .i64 t.cols,.slice A t.kids.length cap],.agg #[.slice Ap p.length cp,.slice Am m.length cm]] W (X4 W (ZI t p m))):=fun W hW=>zLa t p m A Ap Am cap cp cm W (hv.below hW hW.size) aV.2.2 aZ (hp.below hW hW.size) (hm.below hW hW.size)
 have ai:=hid (QS hv (QS aV (QS aZ (QS hp (QS hm (QS bM bQ))))));obtain⟨ax,aL⟩:∃ax,Xd t p m=ax:=⟨_,rfl⟩;rw[aL] at HE ⊢;obtain⟨m0,m1,m2,m3,n0,n1⟩:=aM.out W0 aY aX;clear hv aV aZ hp hm bM bQ cO aY aX aL;go_enter Tryz.func38,Tryz.ntmps38
 go_wp2_with fail
 obtain⟨⟨⟨rr,ra,rb⟩,se⟩,aW⟩:∃OF,ZI t p m=OF:=⟨_,rfl⟩;have dm:=hid aW;rw[aW] at CC HE;refine(CC.out _ aR.out).mono ?_;rintro e w1 ⟨v1,rfl,aT,aK⟩;simp only at aT;obtain⟨Ar1,cr1,rfl⟩:=aT.form;have bI:=hid (aR.out.trans (aK.mono aR.out.size));have ak:=hid (ak.out.below aK);have aj:=hid (aj.out.below aK);have HG:=hid (dn.out.below aK);clear aK m0 m1 m2 m3 n0 n1 CC aW aR aT dn dG
 go_upto_region 2 with (first
  |(refine sR 67 6 15 (Z5.at0 _ _) ?_)
  |fail)
 generalize hX:World.setRow _ _ _=X;have aa:=YL hX;have ay:=hid (XK hX);have ak:=hid (ak.out.below aa);have aj:=hid (aj.out.below aa);have HG:=hid (HG.out.below aa);have af:=hid (bI.out.trans (aa.mono bI.out.size));obtain⟨gr,bW⟩:∃gr,w1.heap.size=gr:=⟨_,rfl⟩;simp only[bW] at ay ⊢;clear hX aa bI bW;by_cases aN:se=0;rotate_left
 ·have dD:(se != 0)=true:=by simp[aN]
  have HR:=hid (HE.out.1 aN);clear HE aN
  go_wp2_with (first
   |(refine sR 35 4 19 HG.out ?_)
   |fail)
  refine Yr Tryz.results38 Tryz.underlying35 (.int .i64 se) (HG.out.row _) ?_;rw[HR.out];exact UQ se (YV af.out (by omega) _)
 subst aN;have bH:=hid (HE.out.2.1 rfl);have bG:=hid (HE.out.2.2 rfl);clear HE;have dB:=hid (zKb t p A Ap cap cp X (ai.out.1.below af.out af.out.size) ai.out.2.1.2.2 ai.out.2.2.1 (ai.out.2.2.2.1.below af.out af.out.size) ai.out.2.2.2.2.2.1);have aH:Hid (∀d,Zz t p=some d->Zt d.item/\ZW d.item<=1000/\d.row.length<=90000/\0<=d.at_/\d.at_<=1000/\∃s':Nat,d.own=s'/\s'<d.item.kids.length):=fun d hd=>zQx (m:=m) ai.out.1 (by rw[dm.out]) ai.out.2.2.2.2.2.1 hd
 obtain⟨m0,m1,m2,m3,n0,n1⟩:=aM.out X ak.out aj.out
 go_wp2_with fail
 refine dB.out.mono ?_;rintro e w7 ⟨cK,hx⟩;have az:=hid cK;clear m0 m1 m2 m3 n0 n1 dB cK;rcases hx with ⟨bN,rfl⟩|⟨⟨dr,da,ds,di⟩,Ar,cr,Ai,ci,aS,rfl,bR,bU⟩
 ·have HR:=hid (bH.out bN);clear bN aH bH bG
  go_upto_region 5 with (first
   |(refine sR 103 8 26 (Z5.at0 _ _) ?_)
   |fail)
  generalize hX:World.setRow _ _ _=X7;have aa:=YL hX;have dA:=hid (az.out.trans (aa.mono az.out.size));have HG:=hid (HG.out.below dA.out);have af:=hid (af.out.trans (dA.out.mono af.out.size));clear hX aa
  go_wp2_with (first
   |(refine sR 35 4 30 HG.out ?_)
   |fail)
  refine Yr Tryz.results38 Tryz.underlying35 (.int .i64 8) (HG.out.row _) ?_;rw[HR.out];exact UQ 8 (YV af.out (by omega) _)
 have aH:=hid (aH.out _ aS);obtain⟨-,-,-,-,-,s',rfl,-⟩:=aH.out;have ae:Hid (Zt di/\ZW di<=1000/\dr.length<=90000/\0<=da/\da<=1000/\s'<di.kids.length):=by
  obtain⟨x1,x2,x3,x4,x5,s9,x6,x7⟩:=aH.out;exact⟨x1,x2,x3,x4,x5,by simp only at x6 x7;omega⟩
 have aG:Hid (Z0 w7 (Lt w7.heap.size) dr (.slice Ar dr.length cr)/\Z8 Z7 w7 (Lt w7.heap.size) di.kids (.slice Ai di.kids.length ci)):=⟨bR.keep (fun _ _=>rfl) (fun k hk=>QV hk az.out.size),bU.keep (fun _ _=>rfl) (fun k hk=>QV hk az.out.size)⟩;have dh:=hid aS;clear aS bR bU aH bH
 go_upto_region 5 with (first
  |(refine sR 103 8 26 (Z5.at0 _ _) ?_)
  |fail)
 generalize hX:World.setRow _ _ _=X7;have aa:=YL hX;have bz:=hid (XK hX);have dw:Hid (w7.heap.size≠w.heap.size+1+1):=fun e=>Nat.lt_irrefl _ (e ▸ (HG.out.below az.out).lt)
 have aG:=hid (QS (aG.out.1.below aa aa.size) (aG.out.2.below aa aa.size));have ah:=az.out.trans (aa.mono az.out.size);have ak:=hid (ak.out.below ah);have aj:=hid (aj.out.below ah);have HG:=hid (HG.out.below ah);have ay:=hid (ay.out.below ah);have af:=hid (af.out.trans (ah.mono af.out.size));have dK:Hid (w.heap.size≠w.heap.size+1+1):=hid (by show w.heap.size≠_;omega);have dx:Hid (w.heap.size+1≠w.heap.size+1+1):=hid (by show w.heap.size+1≠_;omega);obtain⟨ga,bZ⟩:∃ga,w7.heap.size=ga:=⟨_,rfl⟩;simp only[bZ] at bz dw ⊢;clear hX aa bZ ah az;have HR:=hid (bG.out _ dh.out);have bD:Hid (QZ [Zf ⟨dr,da,(s':Int),di⟩]):=UF ae.out.2.1 rfl;have aP:Hid (p.length<=24/\∀x∈p,Bd 1152921504606846976 x):=by
  obtain⟨dC,aU,_⟩:=VM (t:=t) (p:=p) (m:=m) (by rw[dm.out]);obtain⟨h1,h2⟩:=zKd t p aU;have h3:=X0 dC;refine⟨by omega,fun x hx=>?_⟩;have:=h2 x hx;unfold Bd;omega
 have dM:Hid (dr.length<=24):=by
  have h:=dh.out;unfold Zz at h;split at h
  ·cases h
  injection h with h
  injection h with h1
  show dr.length<=24;rw[<-h1];have:=aP.out.1;simp;omega
 obtain⟨nn,bP⟩:∃nn:Int,nn=((ZY di (s':Int)).kids.length:Int):=⟨_,rfl⟩;obtain⟨FL,cZ⟩:∃FL,FL=Zp di ((s':Int).toNat) []:=⟨_,rfl⟩;have hU:Zf ⟨dr,da,(s':Int),di⟩=⟨4,dr,da,nn,[FL],(s':Int),ZQ,ZQ⟩:=by rw[bP,cZ];rfl
 have df:Hid (∀W,Below X7.heap.size X7 W->Calls Tryz.prog 76 #[.agg #[.slice Ar dr.length cr,.int .i64 da,.int .i64 (s':Int),.int .i64 di.kind,.string di.text,.int .i64 di.cols,.slice Ai di.kids.length ci]] W fun e w'=>∃Ao co An cn,e=.returned (.agg #[.int .i64 4,.slice Ao dr.length co,.int .i64 da,.int .i64 nn,.slice An [FL].length cn,.int .i64 (s':Int),.string ZQ,.string ZQ])/\Z0 w' (Lt w'.heap.size) dr (.slice Ao dr.length co)/\Z8 Z7 w' (Lt w'.heap.size) [FL] (.slice An [FL].length cn)/\Below W.heap.size W w'):=fun W hW=>by
  have h9:=zKa (Lt W.heap.size) di s' dr da Ar Ai cr ci W (fun _ h=>h) (aG.out.2.below hW hW.size) ae.out.1 (by have:=ae.out;omega) (aG.out.1.below hW hW.size) ae.out.2.2.2.2.2;rw[hU] at h9;refine h9.mono ?_;rintro e w' ⟨Ao,co,An,cn,rfl,h1,h2,h3⟩;exact⟨Ao,co,An,cn,rfl,h1.keep (fun _ _=>rfl) (fun k hk=>hk.1),h2.keep (fun _ _=>rfl) (fun k hk=>hk.1),h3⟩
 have bB:Hid (0<=nn/\nn<=1000):=by
  have h1:=Yz (ZY di (s':Int));have h2:=Yq (t:=di) (i:=(s':Int)) (by simpa using ae.out.2.2.2.2.2);have h3:=Tz (t:=di) (i:=(s':Int).toNat) (by simpa using ae.out.2.2.2.2.2);have h4:=XG di;rw[<-h2] at h3;have:=ae.out;exact⟨by omega,by omega⟩
 rw[hU] at HR bD;clear hU bP cZ bG
 go_upto_region 8 with (first
  |(refine lR 103 8 bz.out Tryz.underlying103 ?_)
  |(go_at_call 76;refine Calls.mono (df.out _ (QQ _ _)) ?_;rintro e w9 ⟨Ao,co,An,cn,rfl,bL,aJ,cB⟩;have aD:=hid (QS bL aJ);have aQ:=hid cB;clear bL aJ cB)
  |(refine sR 49 10 32 (Z5.at0 _ _) ?_)
  |fail)
 generalize hX:World.setRow _ _ _=V9;have aa:=YL hX;have bu:Hid (Z5 V9 w9.heap.size (.cells #[.int .i64 4,.slice Ao dr.length co,.int .i64 da,.int .i64 nn,.slice An [FL].length cn,.int .i64 (s':Int),.string ZQ,.string ZQ] 49)):=by show Z5 _ _ _;rw[<-hX];exact(Z5.at0 w9 _).row _
 have HG:=hid (HG.out.below aQ.out);have bA:Hid (w9.heap.size≠w.heap.size+1+1):=fun e=>Nat.lt_irrefl _ (e ▸ HG.out.lt)
 have HG:=hid (HG.out.below aa);have av:=aQ.out.trans (aa.mono aQ.out.size);have ak:=hid (ak.out.below av);have aj:=hid (aj.out.below av);have aD:=hid (QS (aD.out.1.below aa aa.size) (aD.out.2.below aa aa.size));have af:=hid (af.out.trans (av.mono af.out.size));have HW:Hid (Below V9.heap.size V9 V9):=hid (QQ _ _);obtain⟨gd,bY⟩:∃gd,w9.heap.size=gd:=⟨_,rfl⟩;simp only[bY] at bu bA ⊢;clear hX aa bY av aQ df aG bz dw ay;obtain⟨pos,aB⟩:∃pos,Uz ⟨4,dr,da,nn,[FL],(s':Int),ZQ,ZQ⟩ p false=pos:=⟨_,rfl⟩;rw[aB] at HR;have dz:Hid (∀W,Below V9.heap.size V9 W->Calls Tryz.prog 78 #[.agg #[.int .i64 4,.slice Ao dr.length co,.int .i64 da,.int .i64 nn,.slice An [FL].length cn,.int .i64 (s':Int),.string ZQ,.string ZQ],.slice Ap p.length cp,.bool false] W (WZ W pos)):=fun W hW=>by
  have hw:=af.out.trans (hW.mono af.out.size);have h9:=zWi ⟨4,dr,da,nn,[FL],(s':Int),ZQ,ZQ⟩ p false Ao An Ap co cn cp W ⟨by have:=ae.out;unfold Bd;simp only;omega,by have:=bB.out;unfold Bd;simp only;omega,by have:=ae.out;have:=Yz di;unfold Bd;simp only;omega,by simp,by have:=dM.out;simp only;omega⟩ (aD.out.1.below hW hW.size) (ai.out.2.2.2.1.below hw hw.size) (by have:=aP.out;omega) aP.out.2;rwa[aB] at h9
 have dL:Hid (∀W gb Aq cq,Z5 W gb (.cells #[.int .i64 4,.slice Ao dr.length co,.int .i64 da,.int .i64 nn,.slice An [FL].length cn,.int .i64 (s':Int),.string ZQ,.string ZQ] 49)->Below V9.heap.size V9 W->Z0 W (Lt W.heap.size) pos (.slice Aq pos.length cq)->Calls Tryz.prog 71 #[.agg #[.int .i64 t.kind,.string t.text,.int .i64 t.cols,.slice A t.kids.length cap],.agg #[.slice Ap p.length cp,.slice Am m.length cm],.slice (some ⟨gb,0,none⟩) 1 1,.slice Aq pos.length cq] W (Zv W ax)):=fun W gb Aq cq hb hW dE=>by
  have hw:=af.out.trans (hW.mono af.out.size);have dF:Zb.R W (Lt W.heap.size) ⟨4,dr,da,nn,[FL],(s':Int),ZQ,ZQ⟩ [.int .i64 4,.slice Ao dr.length co,.int .i64 da,.int .i64 nn,.slice An [FL].length cn,.int .i64 (s':Int),.string ZQ,.string ZQ]:=⟨_,_,rfl,by simp[Z4],YS (by have:=ae.out;simp only;omega),YS (by have:=bB.out;simp only;omega),YS (by have:=ae.out;have:=Yz di;simp only;omega),QU _,QU _,aD.out.1.below hW hW.size,aD.out.2.below hW hW.size⟩;rw[HR.out];exact zMn t p m pos [⟨4,dr,da,nn,[FL],(s':Int),ZQ,ZQ⟩] A Ap Am (some ⟨gb,0,none⟩) Aq cap cp cm 1 cq W (ai.out.1.below hw hw.size) ai.out.2.1 ai.out.2.2.1 (ai.out.2.2.2.1.below hw hw.size) (ai.out.2.2.2.2.1.below hw hw.size) dE (TG (E:=Zb) hb dF hb.lt) (by simp) (fun k hk=>by have:=bD.out.2 _ (List.getElem_mem hk);omega)
 clear aB bD aP bB aD;refine wp_region_noPanic ?_;refine wp_region_held_drew (S:=fun w'=>ZZ (fun k=>k=w.heap.size+1+1) V9 w') (by kernel_rfl) (kwt HW.out) (fun hHeld=>?_);refine tr 0 33 24 2 rfl (fun w hS=>hS.obj ak.out dK.out) Tryz.underlying24 ?_;refine tr 1 34 27 3 rfl (fun w hS=>hS.obj aj.out dx.out) Tryz.underlying27 ?_;refine tr 2 35 49 10 rfl (fun w hS=>hS.obj bu.out bA.out) Tryz.underlying49 ?_;refine tr 4 37 49 10 rfl (fun w hS=>hS.obj bu.out bA.out) Tryz.underlying49 ?_;refine tk 5 38 rfl ?_;refine tk 6 39 rfl ?_ (hy:=Or.inl ⟨by rfl,fun W hS=>by have h:W.cell? ⟨(w.heap.size+1),0,none⟩=some (.slice Ap p.length cp):=(hS.obj aj.out dx.out).cell 0;clear hS;go_simp;try with_reducible rfl⟩);refine rn [3,7] (rc (some 36) rfl (fun K hK=>?_) (rc (some 40) rfl (fun K hK=>?_) AllReadyH.nil));go_simp
 first|refine X6 (fun Xr ag=>?_)|refine X8 (fun Xr ag=>?_)
 try have au:=hid (au.out.below ag.out.1)
 try have aF:=hid (aF.out.below ag.out.1 ag.out.1.size)
 have HW:=hid ((bwt HW.out).trans (ag.out.1.mono (bwt HW.out).size));have au:=hid ag.out.2;clear ag;refine hK.out _ _ (kwt HW.out) (fun hHeld=>?_);clear hK K;refine r1 7 (some 40) rfl (fun K hK=>?_);go_simp;refine Calls.mono (dz.out _ (bwt HW.out)) ?_;rintro e wq ⟨vq,rfl,aA,aC⟩;obtain⟨Aq,cq,rfl⟩:=aA.form;have aF:=hid aA
 try have au:=hid (au.out.below aC)
 have HW:=hid ((bwt HW.out).trans (aC.mono (bwt HW.out).size));clear aA aC;refine hK.out _ _ (kwt HW.out) (fun hHeld=>?_);clear hK K
 try simp only[qP,qN,qS,qZ,qC]
 rotate_left;go_simp;refine Calls.mono (dz.out _ (bwt HW.out)) ?_;rintro e wq ⟨vq,rfl,aA,aC⟩;obtain⟨Aq,cq,rfl⟩:=aA.form;have aF:=hid aA
 try have au:=hid (au.out.below aC)
 have HW:=hid ((bwt HW.out).trans (aC.mono (bwt HW.out).size));clear aA aC;refine hK.out _ _ (kwt HW.out) (fun hHeld=>?_);clear hK K;refine r1 3 (some 36) rfl (fun K hK=>?_);go_simp
 first|refine X6 (fun Xr ag=>?_)|refine X8 (fun Xr ag=>?_)
 try have au:=hid (au.out.below ag.out.1)
 try have aF:=hid (aF.out.below ag.out.1 ag.out.1.size)
 have HW:=hid ((bwt HW.out).trans (ag.out.1.mono (bwt HW.out).size));have au:=hid ag.out.2;clear ag;refine hK.out _ _ (kwt HW.out) (fun hHeld=>?_);clear hK K
 try simp only[qP,qN,qS,qZ,qC]
 rotate_left
 all_goals
  refine r1 8 (some 41) rfl (fun K hK=>?_);go_simp;refine Calls.mono (dL.out _ _ _ _ au.out (bwt HW.out) aF.out) ?_;rintro e wk aI;have bn:=hid aI;obtain⟨dO,dI,dN,dH,dP,dJ,bJ,bg,bK,bi,rfl,_,_,_,_,_,cu⟩:=aI;have HW:=hid ((bwt HW.out).trans (cu.mono (bwt HW.out).size));have bC:=hid (HG.out.below HW.out);clear cu;refine hK.out _ _ (kwt HW.out) (fun hHeld=>?_);clear hK K;refine tk 9 42 rfl ?_;refine tk 10 43 rfl ?_;refine r1 11 none rfl (fun K hK=>?_);rw[if_pos (by rfl)];refine wp_store_row 35 (.tmp 4) (.tmp 42) rfl (w.heap.size+1+1) #[.slice dO ax.1.ops.length dI,.slice dN ax.1.bp.length dH,.slice dP ax.1.bm.length dJ,.slice bJ ax.1.ap.length bg,.slice bK ax.1.am.length bi] rfl rfl 35 _ bC.out (by kernel_rfl) (by simp) (by simp[Value.oneCell']) ?_;refine Wv bC.out (fun X9 aO=>?_);refine hK.out _ _ ((kwt HW.out).trans' aO.out.1) (fun hHeld=>?_);clear hK K;refine tk 12 5 rfl ?_;refine wpAnyH_done (by kernel_rfl) ?_ _;refine NoPanic.normal ?_
 all_goals
  go_wp2_with fail
  refine Yr Tryz.results38 Tryz.underlying35 (.int .i64 ax.2) aO.out.2.1 ?_;exact Zv.put (arr:=#[]) bn.out bC.out aO.out.1 aO.out.2.2 (af.out.trans (HW.out.mono af.out.size)) (by omega)
def NG (g:Nat) (W:World) (k:Nat):Prop:=k≠g/\k<W.heap.size
theorem VI {V W W':World} {g q:Nat} (h1:V.heap.size<=g) (h2:g<W.heap.size) (h3:W.heap.size<=W'.heap.size) (h4:V.heap.size<=W.heap.size) (hq:Lt V.heap.size q\/W.heap.size<=q/\q<W'.heap.size):NG g W' q:=by
 unfold NG;rcases hq with h|h
 ·have h5:q<V.heap.size:=h;omega
 omega
theorem Sc {α:Type} {E:YW α} {W X:World} {g:Nat} {xs:List α} {v:Value} (hg:W.heap.size=g) (hb:Below W.heap.size W X) (h:Z8 E W (Lt W.heap.size) xs v):Z8 E X (NG g X) xs v :=
 h.keep (fun p hp=>hb.cell hp) (fun k hk=>by
  have h5:k<W.heap.size:=hk;have:=hb.size;unfold NG;omega)
theorem VJ {α:Type} {E:YW α} {W X:World} {g:Nat} {cs:Array Value} {T:TypeId} {xs:List α} {v:Value} (hx:Q5 W g cs T X) (h:Z8 E W (NG g W) xs v):Z8 E X (Lt X.heap.size) xs v :=
 h.keep (fun p hp=>hx.1.cell hp.2 hp.1) (fun k hk=>QV hk.2 hx.1.size)
theorem zV8 {α:Type} {E:YW α} {W W':World} {g:Nat} {xs:List α} {v:Value} (hg:g<W.heap.size) (h:Z8 E W' (fun k=>W.heap.size<=k/\k<W'.heap.size) xs v):Z8 E W' (NG g W') xs v :=
 h.keep (fun _ _=>rfl) (fun k hk=>by unfold NG;omega)
theorem zV9 {α:Type} {E:YW α} {W W':World} {xs:List α} {v:Value} (h:Z8 E W' (fun k=>W.heap.size<=k/\k<W'.heap.size) xs v):Z8 E W' (Lt W'.heap.size) xs v :=
 h.keep (fun _ _=>rfl) (fun k hk=>hk.2)
theorem zWs {α:Type} {E:YW α} {X:World} {b:Nat} {T:TypeId} {x y:α} {c1 c2:List Value} {S:Nat->Prop} (h:Z5 X b (.cells (c1++c2).toArray T)) (hx:E.R X S x c1) (hy:E.R X S y c2) (hb:S b):Z8 E X S [x,y] (.slice (some ⟨b,0,none⟩) 2 2) :=
 ⟨_,_,c1++c2,rfl,QT _,by simp[maxLen],fun _=>⟨b,0,rfl,hb,fun j u hu=>by rw[Nat.zero_add,h.cell j];simpa using hu⟩,⟨c1,c2,rfl,hx,ZK.single hy⟩⟩
theorem zWa {α:Type} {E:YW α} {X:World} {b:Nat} {T:TypeId} {x y z:α} {c1 c2 c3:List Value} {S:Nat->Prop} (h:Z5 X b (.cells (c1++(c2++c3)).toArray T)) (hx:E.R X S x c1) (hy:E.R X S y c2) (hz:E.R X S z c3) (hb:S b):Z8 E X S [x,y,z] (.slice (some ⟨b,0,none⟩) 3 3) :=
 ⟨_,_,c1++(c2++c3),rfl,QT _,by simp[maxLen],fun _=>⟨b,0,rfl,hb,fun j u hu=>by rw[Nat.zero_add,h.cell j];simpa using hu⟩,⟨c1,_,rfl,hx,⟨c2,_,rfl,hy,ZK.single hz⟩⟩⟩
theorem zWo {w:World} {b:Nat} {S:Nat->Prop} {xss:List Z9} {x:Z9} {v:Value} {ops:Array Oper} {o:Oper} {a:Act} {K:Act->World->Prop} {Q:Exit->Act->World->Prop} {E0:Prop} (ax:o.guard=none) (s y:Operand)
  (ho:o.op=.call { callee:=.builtin .append,args:=#[s,y],argTypes:=#[22,22] })
  (ay:∀k,S k->k<b) (hs:a.eval s=v) (aa:ZH w b S xss v) {g:Nat} {cs:List Value} (hy:a.eval y=.slice (some ⟨g,0,none⟩) 1 1) (h8:Z5 w g (.cells cs.toArray 24)) (hx:Z7.R w S x cs)
  (af:xss.length<=100000) (hb:b<=w.heap.size)
  (h:∀v' w',ZH w' b S (xss++[x]) v'->Below b w w'->K (a.put o.dst v') w') :
  if Region.wanted o (yielded ops a.tmps)=true then Oper.wp Tryz.prog o a w K Q else E0:=by
 obtain⟨i0,av,ak,aj,ai⟩:=info_parts TD;obtain⟨ds,ag,au⟩:=aa;have ae:ZK Z7 w S [x] cs:=ZK.single hx;have hl:=ae.len;refine Tj w ax s y 22 ho b 24 i0 _ 4 56 Tryz.underlying22 av ak aj ai rfl (by omega) v _ _ hs ag (fun k=>k=g) (some ⟨g,0,none⟩) 1 1 cs hy hl (fun _=>⟨g,0,rfl,rfl,fun j u hu=>by rw[Nat.zero_add];exact(h8.cell j).trans (by simpa using hu)⟩) ae.one (by simp only[maxLen];omega) (by omega) hb ?_;intro v' w' h3 h4 h5;have ah:=WF _ ag h4 hb;exact h v' w' (zJf ay au ae h3 ah) ah
theorem zSs {t:Z9} {p m:List Int} (h:(ZI t p m).2=0):Zz t p=none\/∃q2 i,∃s':Nat,∃it its o,Zz t p=some ⟨q2,i,(s':Int),it⟩/\p=q2++[i,(s':Int)]++[o]/\(∃h:s'<it.kids.length,it.kids[s']=Z6 its)/\0<=o/\o<=(its.length:Int):=by
 obtain⟨hv,hp,_⟩:=VM h;by_cases hl:p.length<3
 ·left;unfold Zz;rw[if_pos hl]
 right;obtain⟨q,o,rfl⟩:∃q o,p=q++[o]:=⟨p.dropLast,p.getLast (by intro e;subst e;simp at hl),(List.dropLast_concat_getLast _).symm⟩;obtain⟨q2,i,s,rfl⟩:=zT2 (p:=q) (by simp at hl;omega);obtain⟨h4,hi,hk,h7,af,ae⟩:=Tc hp;obtain⟨s',rfl⟩:∃s':Nat,s=s':=⟨s.toNat,by omega⟩;have h8:=(TE hp).1;have hr:=Ri hv h8;have aa:s'<(ZY (ZM t q2).1 i).kids.length:=by simpa using hk.2
 refine⟨q2,i,s',_,(ZM t (q2++[i,(s':Int)])).1.kids,o,Q8 hv hp,rfl,⟨aa,?_⟩,af,by rw[h7];exact ae⟩;have h1:ZY (ZY (ZM t q2).1 i) (s':Int)=(ZY (ZM t q2).1 i).kids[s']:=by
  rw[Yq (t:=ZY (ZM t q2).1 i) (by simpa using aa)];simp
 rw[<-hr,h7];exact h1.symm
