/- T -/
import Derived.Test.YthpngeboknmllaaGreatQ49eb
import Derived.Test.YthpngeboknmllaaGreatQ2112
import Derived.Test.YthpngeboknmllaaGreatQ4dc0
import Derived.Test.YthpngeboknmllaaGreatQfd8a
set_option linter.unusedVariables false
set_option linter.unusedSimpArgs false
set_option maxHeartbeats 4000000
set_option maxRecDepth 100000
namespace Go.Proofs.YthpngeboknmllaaGreat
open Go.RowKit
theorem zLu {op:ZB} (h:Yo op=true):ZT op.nodes<=1000:=by
 have hr:∀l:List Z9,ZN (Z6 l)=true->ZT l<=1000:=fun l hv=>by
  have h1:=(X0 hv).1;have h2:ZW (Z6 l)=1+ZT l:=rfl;omega
 unfold Yo at h;split at h
 ·simp only[Bool.and_eq_true] at h;exact hr _ h.2.1
 split at h
 ·simp only[Bool.and_eq_true] at h;have h1:=h.2.1;unfold Yf at h1;simp only[Bool.and_eq_true] at h1;exact hr _ h1.2.1
 split at h
 ·simp only[Bool.and_eq_true,decide_eq_true_eq] at h;rw[List.eq_nil_of_length_eq_zero h.2.1];exact QU _
 cases h
theorem Tg {t:Z9} {p:List Int} (hv:ZN t=true) (h:(ZR t p).2=0):(ZR t p).1=Z6 (ZR t p).1.kids/\(ZM t p).2=true/\Zd (Z6 (ZR t p).1.kids)=true:=by
 obtain⟨h1,h2⟩:=zGx hv h;have aa:=X0 hv;have h3:=Ri hv h1;obtain⟨h4,_⟩:=R8 p t h1 aa.2.2.1 aa.2.1;rw[h2];rw[h3] at h4;exact⟨h3,h1,h4⟩
theorem zOn {t:Z9} {p:List Int} (h:(ZR t p).2≠0):(ZR t p).1=ZJ:=by
 unfold ZR at h ⊢;by_cases h1:ZN t=false
 ·rw[if_pos h1]
 rw[if_neg h1] at h ⊢;by_cases h2:(ZM t p).2=false
 ·rw[if_pos h2]
 rw[if_neg h2] at h;exact absurd rfl h
theorem Wh {t:Z9} {p:List Int} {l:List Z9} (hv:ZN t=true) (hf:(ZM t p).2=true):(ZN (ZV t p l)=true/\WT t p l=(ZV t p l,0))\/(ZN (ZV t p l)=false/\(WT t p l).1=ZJ/\(WT t p l).2≠0):=by
 unfold WT;rw[if_neg (by simp[hv]),if_neg (by simp[hf])];cases h1:ZN (ZV t p l)
 ·right;refine⟨rfl,?_⟩;cases ZN (Z6 l)<;>simp
 left;rw[zPw hf h1];simp
theorem zOy (t:Z9) (op:ZB) (A Ar An:Option Addr) (cap cr cn:Nat) (w:World) (hv:Z8 Z7 w (Lt w.heap.size) t.kids (.slice A t.kids.length cap)) (aL:Zt t) (aU:ZW t<=900000) (bG:op.text.size<=maxLen) (hr:Z0 w (Lt w.heap.size) op.row (.slice Ar op.row.length cr)) (hn:Z8 Z7 w (Lt w.heap.size) op.nodes (.slice An op.nodes.length cn)) :
  Calls Tryz.prog 116 #[.agg #[.int .i64 t.kind,.string t.text,.int .i64 t.cols,.slice A t.kids.length cap],.agg (Zu op (.slice Ar op.row.length cr) (.slice An op.nodes.length cn))] w (XC w (Ze t op).1 (Ze t op).2):=by
 have C1:Hid (∀W,Below w.heap.size w W->Calls Tryz.prog 53 #[.agg #[.int .i64 t.kind,.string t.text,.int .i64 t.cols,.slice A t.kids.length cap]] W fun e w'=>e=.returned (.bool (ZN t))/\Below W.heap.size W w'):=fun W hW=>UN t A cap W (hv.below hW hW.size) aL.2.2
 have C2:Hid (∀W,Below w.heap.size w W->Calls Tryz.prog 55 #[.agg (Zu op (.slice Ar op.row.length cr) (.slice An op.nodes.length cn))] W (Xg W (Yo op))):=fun W hW=>zM9 op op.row.length Ar An cr cn W (hn.below hW hW.size)
 have C3:Hid (∀W,Below w.heap.size w W->Calls Tryz.prog 83 #[.agg #[.int .i64 t.kind,.string t.text,.int .i64 t.cols,.slice A t.kids.length cap],.slice Ar op.row.length cr] W (XC W (ZR t op.row).1 (ZR t op.row).2)):=fun W hW=>zKi t op.row A Ar cap cr W (hv.below hW hW.size) aL aU (hr.below hW hW.size)
 have cO:Hid (ZN t=false->Ze t op=(ZJ,1)):=fun h=>by unfold Ze;rw[if_pos h]
 have cK:Hid (ZN t=true->Yo op=false->Ze t op=(ZJ,4)):=fun h h1=>by unfold Ze;rw[if_neg (by simp[h]),if_pos h1]
 have aZ:Hid (ZN t=true->Yo op=true->(ZR t op.row).2≠0->Ze t op=(ZJ,(ZR t op.row).2)/\(ZR t op.row).1=ZJ):=fun h h1 h2=>⟨by unfold Ze;rw[if_neg (by simp[h]),if_neg (by simp[h1]),if_pos h2],zOn h2⟩
 have aj:Hid (ZN t=true->Yo op=true->(ZR t op.row).2=0->(ZR t op.row).1=Z6 (ZR t op.row).1.kids/\(∀W Ax cx,Below w.heap.size w W->(∀S:Nat->Prop,(∀q,S q->q<W.heap.size)->(∀q,q<w.heap.size->S q)->Z8 Z7 W S (ZR t op.row).1.kids (.slice Ax (ZR t op.row).1.kids.length cx) ->
   Calls Tryz.prog 143 #[.agg (YE op (.slice Ar op.row.length cr) (.slice An op.nodes.length cn) (.slice Ax (ZR t op.row).1.kids.length cx))] W (XB S W (ZC (ZR t op.row).1.kids op)))) /\
   ((ZC (ZR t op.row).1.kids op).2≠0->Ze t op=(ZJ,(ZC (ZR t op.row).1.kids op).2)) /\
   ((
    ZC (ZR t op.row).1.kids op).2=0->(∀W Al cl,Below w.heap.size w W->Z8 Z7 W (Lt W.heap.size) (ZC (ZR t op.row).1.kids op).1 (.slice Al (ZC (ZR t op.row).1.kids op).1.length cl) ->
    Calls Tryz.prog 144 #[.agg #[.int .i64 t.kind,.string t.text,.int .i64 t.cols,.slice A t.kids.length cap],.slice Ar op.row.length cr,.agg #[.int .i64 1,.string ⟨#[]⟩,.int .i64 0,.slice Al (ZC (ZR t op.row).1.kids op).1.length cl]] W (XC W (WT t op.row (ZC (ZR t op.row).1.kids op).1).1 (WT t op.row (ZC (ZR t op.row).1.kids op).1).2)) /\
    ((Ze t op=WT t op.row (ZC (ZR t op.row).1.kids op).1/\(WT t op.row (ZC (ZR t op.row).1.kids op).1).2=0)\/(Ze t op=(ZJ,6)/\(WT t op.row (ZC (ZR t op.row).1.kids op).1).2≠0/\(WT t op.row (ZC (ZR t op.row).1.kids op).1).1=ZJ)))):=fun h h1 h2=>by
  obtain⟨e1,e2,e3⟩:=Tg h h2;have bW:=(X0 h).1;have hrc:=zE5 t op.row bW;have hnc:=zLu h1;refine⟨e1,fun W Ax cx hW S hS cB hx=>zM8 op _ _ Ar An Ax cr cn cx W S hS hx (hn.keep (fun q hq=>hW.cell hq) cB) h1 e3 (by omega) (by omega) bG,fun h3=>by unfold Ze;rw[if_neg (by simp[h]),if_neg (by simp[h1]),if_neg (by simp[h2]),if_pos h3],fun h3=>⟨fun W Al cl hW hx=>We t op.row _ A Ar Al cap cr cl W (hv.below hW hW.size) aL aU (hr.below hW hW.size) hx,?_⟩⟩;rcases Wh (l:=(ZC (ZR t op.row).1.kids op).1) h e2 with ⟨q1,q2⟩|⟨q1,q2,q3⟩
  ·left;refine⟨?_,by rw[q2]⟩;unfold Ze;rw[if_neg (by simp[h]),if_neg (by simp[h1]),if_neg (by simp[h2]),if_neg (by simp[h3]),if_neg (by rw[q1];simp),q2]
  right;refine⟨?_,q3,q2⟩;unfold Ze;rw[if_neg (by simp[h]),if_neg (by simp[h1]),if_neg (by simp[h2]),if_neg (by simp[h3]),if_pos q1]
 generalize Ze t op=bM at *;generalize bZ:ZN t=bv at *;generalize cu:Yo op=bf at *;generalize ZR t op.row=RR at *;obtain⟨⟨rk,rt,rc,ag⟩,re⟩:=RR;simp only[Z9.kind,Z9.text,Z9.cols,Z9.kids] at aZ aj C3;generalize ZC ag op=CH at *;obtain⟨cx,ce⟩:=CH;simp only at aj;generalize WT t op.row cx=WR at *;obtain⟨⟨wk,wt,wc,af⟩,we⟩:=WR;simp only[Z9.kind,Z9.text,Z9.cols,Z9.kids] at aj;clear hv aL aU bG hr hn bZ cu;obtain⟨kind,row,at_,n,nodes,slot,old,text⟩:=op;simp only[Zu,YE] at *;obtain⟨W0,aB⟩:∃W0,((w.alloc (Obj.cells #[.int .i64 t.kind,.string t.text,.int .i64 t.cols,.slice A t.kids.length cap] 24)).alloc (Obj.cells #[.int .i64 kind,.slice Ar row.length cr,.int .i64 at_,.int .i64 n,.slice An nodes.length cn,.int .i64 slot,.string old,.string text] 49)).alloc (.cells #[.int .i64 0,.string ⟨#[]⟩,.int .i64 0,.slice none 0 0] 24)=W0:=⟨_,rfl⟩;have ah:Hid (W0.heap.size=w.heap.size+1+1+1):=by show _=_;rw[<-aB];simp
 have KB:Hid (∀W,Below W0.heap.size W0 W->FB W w.heap.size (.int .i64 t.kind) (.string t.text) (.int .i64 t.cols) (.slice A t.kids.length cap)/\Yv W (w.heap.size+1) ⟨kind,row,at_,n,nodes,slot,old,text⟩ (.slice Ar row.length cr) (.slice An nodes.length cn)/\FB W (w.heap.size+1+1) (.int .i64 0) (.string ⟨#[]⟩) (.int .i64 0) (.slice none 0 0)/\Below w.heap.size w W/\w.heap.size+3<=W.heap.size):=by
  intro W hW;have hz:W0.heap.size=w.heap.size+1+1+1:=ah.out;refine⟨FB.below (B:=W0.heap.size) ?_ hW (by omega),Yv.below (B:=W0.heap.size) ?_ hW (by omega),FB.below (B:=W0.heap.size) ?_ hW (by omega),Below.trans ?_ (hW.mono (by omega)),by have:=hW.size;omega⟩
  ·rw[<-aB];exact((FB.new w _ _ _ _ _ rfl).below (ZX _ _) (by simp)).below (ZX _ _) (by simp;omega)
  ·rw[<-aB];have h9:=Yv.new (w.alloc (Obj.cells #[.int .i64 t.kind,.string t.text,.int .i64 t.cols,.slice A t.kids.length cap] 24)) ⟨kind,row,at_,n,nodes,slot,old,text⟩ (.slice Ar row.length cr) (.slice An nodes.length cn) 49;rw[show (w.alloc (Obj.cells #[.int .i64 t.kind,.string t.text,.int .i64 t.cols,.slice A t.kids.length cap] 24)).heap.size=w.heap.size+1 by simp] at h9;exact h9.below (ZX _ _) (by simp)
  ·rw[<-aB];exact FB.new _ _ _ _ _ _ (by simp)
  rw[<-aB];exact Zq (Zq (ZX _ _) _) _
 obtain⟨⟨⟨m0,m1,m2,m3⟩,_⟩,⟨o0,o1,o2,o3,o4,o5,o6,o7⟩,⟨⟨c0,c1,c2,c3⟩,⟨f0,f1,f2,f3⟩⟩,aA,bR⟩:=KB.out W0 (QQ _ _);have bn:=hid aA;clear aA;go_enter Tryz.func116,Tryz.ntmps116
 go_wp2_with fail
 refine(C1.out _ bn.out).mono ?_;rintro e w1 ⟨rfl,aY⟩;clear m0 m1 m2 m3 o0 o1 o2 o3 o4 o5 o6 o7 c0 c1 c2 c3 f0 f1 f2 f3;clear bR;have bQ:=hid aY;obtain⟨⟨⟨m0,m1,m2,m3⟩,_⟩,⟨o0,o1,o2,o3,o4,o5,o6,o7⟩,⟨⟨c0,c1,c2,c3⟩,⟨f0,f1,f2,f3⟩⟩,az,hz1⟩:=KB.out w1 aY;have aH:=hid az;clear aY az;cases bv
 ·have HC:=hid (QS c0 (QS c1 (QS c2 c3)))
  go_wp2_with fail
  generalize hW:(((w1.setCell _ (.int .i64 0)).setCell _ (.string ⟨#[]⟩)).setCell _ (.int .i64 0)).setCell _ (.slice none 0 0)=W;obtain⟨⟨r0,r1,r2,r3⟩,rz,rb,ro,_⟩:=four HC.out.1 HC.out.2.1 HC.out.2.2.1 HC.out.2.2.2 _ _ _ _ hW.symm;have ae:=hid (rb w.heap.size w (by omega) aH.out);clear hW ro rb;refine bodyPost_ret (v:=.tuple #[.agg #[.int .i64 0,.string ⟨#[]⟩,.int .i64 0,.slice none 0 0],.int .i64 1]) (by simp[results,Tryz.results116,go_sem,r0,r1,r2,r3]) rfl ?_;rw[cO.out (by trivial)];exact⟨_,rfl,Z8.nil_ 0 (QU _) none,ae.out⟩
 go_wp2_with fail
 refine(C2.out _ aH.out).mono ?_;rintro e w2 ⟨rfl,bK⟩;have bA:=hid (bQ.out.trans (bK.mono bQ.out.size));clear m0 m1 m2 m3 o0 o1 o2 o3 o4 o5 o6 o7 c0 c1 c2 c3 f0 f1 f2 f3;obtain⟨⟨⟨m0,m1,m2,m3⟩,_⟩,⟨o0,o1,o2,o3,o4,o5,o6,o7⟩,⟨⟨c0,c1,c2,c3⟩,⟨f0,f1,f2,f3⟩⟩,ay,hz2⟩:=KB.out w2 bA.out;have ai:=hid ay;clear bK ay;cases bf
 ·have HC:=hid (QS c0 (QS c1 (QS c2 c3)))
  go_wp2_with fail
  generalize hW:(((w2.setCell _ (.int .i64 0)).setCell _ (.string ⟨#[]⟩)).setCell _ (.int .i64 0)).setCell _ (.slice none 0 0)=W;obtain⟨⟨r0,r1,r2,r3⟩,rz,rb,ro,_⟩:=four HC.out.1 HC.out.2.1 HC.out.2.2.1 HC.out.2.2.2 _ _ _ _ hW.symm;have ae:=hid (rb w.heap.size w (by omega) ai.out);clear hW ro rb;refine bodyPost_ret (v:=.tuple #[.agg #[.int .i64 0,.string ⟨#[]⟩,.int .i64 0,.slice none 0 0],.int .i64 4]) (by simp[results,Tryz.results116,go_sem,r0,r1,r2,r3]) rfl ?_;rw[cK.out (by trivial) (by trivial)];exact⟨_,rfl,Z8.nil_ 0 (QU _) none,ae.out⟩
 go_wp2_with fail
 refine(C3.out _ ai.out).mono ?_;rintro e w3 ⟨v3,rfl,aK,aX⟩;simp only[Z9.kind,Z9.text,Z9.cols,Z9.kids] at aK ⊢;obtain⟨A3,aC,rfl⟩:=aK.form;have bz:=hid (bA.out.trans (aX.mono bA.out.size));have dn:Hid (Z8 Z7 w3 (Lt w3.heap.size) ag (.slice A3 ag.length aC)):=aK.keep (fun _ _=>rfl) (fun k hk=>hk.2);obtain⟨W4,aR⟩:∃W4,w3.alloc (.cells #[.int .i64 rk,.string rt,.int .i64 rc,.slice A3 ag.length aC] 24)=W4:=⟨_,rfl⟩;have aW:Below w3.heap.size w3 W4:=by rw[<-aR];exact ZX _ _
 have bu:Hid (Below W0.heap.size W0 W4):=bz.out.trans (aW.mono bz.out.size);obtain⟨⟨t0,t1,t2,t3⟩,⟨g0,g1,g2,g3⟩⟩:FB W4 w3.heap.size (.int .i64 rk) (.string rt) (.int .i64 rc) (.slice A3 ag.length aC):=by rw[<-aR];exact FB.new _ _ _ _ _ _ rfl
 have dm:Hid (Z8 Z7 W4 (fun q=>q<w3.heap.size) ag (.slice A3 ag.length aC)):=dn.out.keep (fun q hq=>aW.cell hq) (fun q hq=>hq);have dz:Hid (w.heap.size<=w3.heap.size):=QP ai.out.size aX.size;have H3:Hid (W0.heap.size<=w3.heap.size):=bz.out.size;have aT:Hid (w3.heap.size<W4.heap.size):=Y2 t0;clear m0 m1 m2 m3 o0 o1 o2 o3 o4 o5 o6 o7 c0 c1 c2 c3 f0 f1 f2 f3;obtain⟨⟨⟨m0,m1,m2,m3⟩,_⟩,⟨o0,o1,o2,o3,o4,o5,o6,o7⟩,⟨⟨c0,c1,c2,c3⟩,⟨f0,f1,f2,f3⟩⟩,ax,hz4⟩:=KB.out W4 bu.out;have aG:=hid ax;clear aK aX ax aW
 go_upto_region 6 with fail
 try rw[aR]
 clear aR;by_cases aM:re=0;rotate_left
 ·obtain⟨bC,bU⟩:=aZ.out (by trivial) (by trivial) aM;have i9:(re==0)=false:=by simpa using aM
  have bB:(re != 0)=true:=by simpa using aM
  have aa:=hid bC;clear bC aj bU t0 t1 t2 t3 g0 g1 g2 g3;have HC:=hid (QS c0 (QS c1 (QS c2 c3)))
  go_wp2_with fail
  generalize hW:(((W4.setCell _ (.int .i64 0)).setCell _ (.string ⟨#[]⟩)).setCell _ (.int .i64 0)).setCell _ (.slice none 0 0)=W;obtain⟨⟨r0,r1,r2,r3⟩,rz,rb,ro,_⟩:=four HC.out.1 HC.out.2.1 HC.out.2.2.1 HC.out.2.2.2 _ _ _ _ hW.symm;have ae:=hid (rb w.heap.size w (by omega) aG.out);clear hW ro rb;refine bodyPost_ret (v:=.tuple #[.agg #[.int .i64 0,.string ⟨#[]⟩,.int .i64 0,.slice none 0 0],.int .i64 re]) (by simp[results,Tryz.results116,go_sem,r0,r1,r2,r3]) rfl ?_;rw[aa.out];exact⟨_,rfl,Z8.nil_ 0 (QU _) none,ae.out⟩
 subst aM;obtain⟨e1,bL,hE,hO⟩:=aj.out (by trivial) (by trivial) rfl;have dx:=hid bL;have HE:=hid hE;have HO:=hid hO;unfold Z6 at e1;injection e1 with x1 x2 x3 x4
 subst x1 x2 x3;clear aZ aj bL hE hO x4
 go_wp2_with fail
 refine(dx.out W4 A3 aC aG.out (fun q=>q<w3.heap.size) (fun q hq=>Nat.lt_trans hq aT.out) (fun q hq=>QV hq dz.out) dm.out).mono ?_;rintro e w5 ⟨v5,rfl,aJ,aP⟩;simp only at aJ ⊢;obtain⟨A5,c5,rfl⟩:=aJ.form;obtain⟨⟨t0,t1,t2,t3⟩,⟨g0,g1,g2,g3⟩⟩:=FB.below (W':=w5) (B:=W4.heap.size) (b:=w3.heap.size) ⟨⟨t0,t1,t2,t3⟩,g0,g1,g2,g3⟩ aP aT.out;have bY:∀k,Lt w5.heap.size k->True:=fun _ _=>trivial
 have bP:=hid (bu.out.trans (aP.mono bu.out.size));have aS:Hid (Below W0.heap.size W0 (w5.setCell ⟨w3.heap.size,3,none⟩ (.slice A5 cx.length c5))):=bP.out.setCell (p:=⟨w3.heap.size,3,none⟩) H3.out _;have u0:(w5.setCell ⟨w3.heap.size,3,none⟩ (.slice A5 cx.length c5)).cell? ⟨w3.heap.size,0,none⟩=some (.int .i64 1):=(World.cell?_setCell_other _ _ _ _ (by intro e;injection e with e e';cases e')).trans t0;have u1:(w5.setCell ⟨w3.heap.size,3,none⟩ (.slice A5 cx.length c5)).cell? ⟨w3.heap.size,1,none⟩=some (.string ⟨#[]⟩):=(World.cell?_setCell_other _ _ _ _ (by intro e;injection e with e e';cases e')).trans t1;have u2:(w5.setCell ⟨w3.heap.size,3,none⟩ (.slice A5 cx.length c5)).cell? ⟨w3.heap.size,2,none⟩=some (.int .i64 0):=(World.cell?_setCell_other _ _ _ _ (by intro e;injection e with e e';cases e')).trans t2;have u3:(w5.setCell ⟨w3.heap.size,3,none⟩ (.slice A5 cx.length c5)).cell? ⟨w3.heap.size,3,none⟩=some (.slice A5 cx.length c5):=World.cell?_setCell_same _ _ _ t3;clear m0 m1 m2 m3 o0 o1 o2 o3 o4 o5 o6 o7 c0 c1 c2 c3 f0 f1 f2 f3;obtain⟨⟨⟨m0,m1,m2,m3⟩,_⟩,⟨o0,o1,o2,o3,o4,o5,o6,o7⟩,⟨⟨c0,c1,c2,c3⟩,⟨f0,f1,f2,f3⟩⟩,aV,hz5⟩:=KB.out w5 bP.out;clear aV
 go_upto_region 9 with fail
 have bH:Z8 Z7 (w5.setCell ⟨w3.heap.size,3,none⟩ (.slice A5 cx.length c5)) (Lt (w5.setCell ⟨w3.heap.size,3,none⟩ (.slice A5 cx.length c5)).heap.size) cx (.slice A5 cx.length c5):=aJ.keep (fun q hq=>World.cell?_setCell_other _ _ _ _ (by
  intro e;rw[<-e] at hq;have:=aT.out;rcases hq with hq|hq
  ·exact Nat.lt_irrefl _ hq
  ·have:=hq.1;simp only at this;omega)) (fun k hk=>by
  have h9:=aT.out;have h8:=aP.size;unfold Lt;simp only[World.setCell];rcases hk with hk|hk
  ·simp;omega
  simpa using hk.2)
 generalize (w5.setCell ⟨w3.heap.size,3,none⟩ (.slice A5 cx.length c5))=W6 at *;have dh:=hid bH
 try clear m0 m1 m2 m3 o0 o1 o2 o3 o4 o5 o6 o7 c0 c1 c2 c3 f0 f1 f2 f3
 obtain⟨⟨⟨m0,m1,m2,m3⟩,_⟩,⟨o0,o1,o2,o3,o4,o5,o6,o7⟩,⟨⟨c0,c1,c2,c3⟩,⟨f0,f1,f2,f3⟩⟩,av,hz6⟩:=KB.out W6 aS.out;have aF:=hid av;clear t0 t1 t2 t3 g0 g1 g2 g3 aJ aP bH av bY;by_cases aN:ce=0;rotate_left
 ·have i9:(ce==0)=false:=by simpa using aN
  have bB:(ce != 0)=true:=by simpa using aN
  have aa:=hid (HE.out aN);clear u0 u1 u2 u3;have HC:=hid (QS c0 (QS c1 (QS c2 c3)))
  go_wp2_with fail
  generalize hW:(((W6.setCell _ (.int .i64 0)).setCell _ (.string ⟨#[]⟩)).setCell _ (.int .i64 0)).setCell _ (.slice none 0 0)=W;obtain⟨⟨r0,r1,r2,r3⟩,rz,rb,ro,_⟩:=four HC.out.1 HC.out.2.1 HC.out.2.2.1 HC.out.2.2.2 _ _ _ _ hW.symm;have ae:=hid (rb w.heap.size w (by omega) aF.out);clear hW ro rb;refine bodyPost_ret (v:=.tuple #[.agg #[.int .i64 0,.string ⟨#[]⟩,.int .i64 0,.slice none 0 0],.int .i64 ce]) (by simp[results,Tryz.results116,go_sem,r0,r1,r2,r3]) rfl ?_;rw[aa.out];exact⟨_,rfl,Z8.nil_ 0 (QU _) none,ae.out⟩
 subst aN;obtain⟨bD,bI⟩:=HO.out rfl;have cZ:=hid (bD W6 A5 c5 aF.out dh.out);have bg:=hid bI;clear bD bI HE HO
 go_wp2_with fail
 refine cZ.out.mono ?_;rintro e w7 ⟨v7,rfl,aI,bJ⟩;simp only[Z9.kind,Z9.text,Z9.cols,Z9.kids] at aI ⊢;obtain⟨A7,c7,rfl⟩:=aI.form;have bN:=hid (aS.out.trans (bJ.mono aS.out.size));obtain⟨W8,aQ⟩:∃W8,w7.alloc (.cells #[.int .i64 wk,.string wt,.int .i64 wc,.slice A7 af.length c7] 24)=W8:=⟨_,rfl⟩;have aO:Below w7.heap.size w7 W8:=by rw[<-aQ];exact ZX _ _
 have dw:Hid (Below W0.heap.size W0 W8):=bN.out.trans (aO.mono bN.out.size);obtain⟨⟨t0,t1,t2,t3⟩,⟨g0,g1,g2,g3⟩⟩:FB W8 w7.heap.size (.int .i64 wk) (.string wt) (.int .i64 wc) (.slice A7 af.length c7):=by rw[<-aQ];exact FB.new _ _ _ _ _ _ rfl
 have df:Hid (Z8 Z7 W8 (fun k=>W0.heap.size<=k/\k<W8.heap.size) af (.slice A7 af.length c7)):=aI.keep (fun q hq=>aO.cell hq.2) (fun k hk=>⟨QP aS.out.size hk.1,QV hk.2 aO.size⟩);clear m0 m1 m2 m3 o0 o1 o2 o3 o4 o5 o6 o7 c0 c1 c2 c3 f0 f1 f2 f3;obtain⟨⟨⟨m0,m1,m2,m3⟩,_⟩,⟨o0,o1,o2,o3,o4,o5,o6,o7⟩,⟨⟨c0,c1,c2,c3⟩,⟨f0,f1,f2,f3⟩⟩,au,hz8⟩:=KB.out W8 dw.out;have aD:=hid au;clear aI bJ au aO u0 u1 u2 u3
 go_upto_region 12 with fail
 try rw[aQ]
 clear aQ;by_cases ak:we=0;rotate_left
 ·have i9:(we==0)=false:=by simpa using ak
  have bB:(we != 0)=true:=by simpa using ak
  have aa:Hid (bM=(ZJ,6)):=by
   rcases bg.out with h|h
   ·exact absurd h.2 ak
   exact h.1
  clear t0 t1 t2 t3 g0 g1 g2 g3;have HC:=hid (QS c0 (QS c1 (QS c2 c3)))
  go_wp2_with fail
  generalize hW:(((W8.setCell _ (.int .i64 0)).setCell _ (.string ⟨#[]⟩)).setCell _ (.int .i64 0)).setCell _ (.slice none 0 0)=W;obtain⟨⟨r0,r1,r2,r3⟩,rz,rb,ro,_⟩:=four HC.out.1 HC.out.2.1 HC.out.2.2.1 HC.out.2.2.2 _ _ _ _ hW.symm;have ae:=hid (rb w.heap.size w (by omega) aD.out);clear hW ro rb;refine bodyPost_ret (v:=.tuple #[.agg #[.int .i64 0,.string ⟨#[]⟩,.int .i64 0,.slice none 0 0],.int .i64 6]) (by simp[results,Tryz.results116,go_sem,r0,r1,r2,r3]) rfl ?_;rw[aa.out];exact⟨_,rfl,Z8.nil_ 0 (QU _) none,ae.out⟩
 have aa:Hid (bM=(.mk wk wt wc af,we)):=by
  rcases bg.out with h|h
  ·exact h.1
  exact absurd ak h.2.1
 subst ak;have HC:=hid (QS c0 (QS c1 (QS c2 c3)));clear bg
 go_wp2_with fail
 generalize hW:(((W8.setCell _ (.int .i64 wk)).setCell _ (.string wt)).setCell _ (.int .i64 wc)).setCell _ (.slice A7 af.length c7)=W;obtain⟨⟨r0,r1,r2,r3⟩,rz,rb,ro,_⟩:=four HC.out.1 HC.out.2.1 HC.out.2.2.1 HC.out.2.2.2 _ _ _ _ hW.symm;have ae:=hid (rb w.heap.size w (by omega) aD.out);have bi:Hid (Z8 Z7 W (fun k=>w.heap.size<=k/\k<W.heap.size) af (.slice A7 af.length c7)):=df.out.keep (fun q hq=>ro q (by have:=hq.1;have:=ah.out;omega)) (fun k hk=>⟨by have:=hk.1;have:=ah.out;omega,by rw[rz];exact hk.2⟩);clear hW ro rb;refine bodyPost_ret (v:=.tuple #[.agg #[.int .i64 wk,.string wt,.int .i64 wc,.slice A7 af.length c7],.int .i64 0]) (by simp[results,Tryz.results116,go_sem,r0,r1,r2,r3]) rfl ?_;rw[aa.out];exact⟨_,rfl,bi.out,ae.out⟩
