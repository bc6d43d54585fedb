/- T -/
import Derived.Test.YthpngeboknmllaaGreatQf32a
import Derived.Test.YthpngeboknmllaaGreatQ2824
import Derived.Test.YthpngeboknmllaaGreatQ81ab
import Derived.Test.YthpngeboknmllaaGreatQd4c4
set_option linter.unusedVariables false
set_option linter.unusedSimpArgs false
set_option maxHeartbeats 4000000
set_option maxRecDepth 100000
namespace Go.Proofs.YthpngeboknmllaaGreat
open Go.RowKit
theorem zLu {op:ZL} (h:Zb op=true):ZQ op.nodes<=1000:=by
 have hr:∀l:List Z9,ZU (Z7 l)=true->ZQ l<=1000:=fun l hv=>by
  have h1:=(Yb hv).1;have h2:ZR (Z7 l)=1+ZQ l:=rfl;omega
 unfold Zb at h;split at h
 ·simp only[Bool.and_eq_true] at h;exact hr _ h.2.1
 split at h
 ·simp only[Bool.and_eq_true] at h;have h1:=h.2.1;unfold Ye at h1;simp only[Bool.and_eq_true] at h1;exact hr _ h1.2.1
 split at h
 ·simp only[Bool.and_eq_true,decide_eq_true_eq] at h;rw[List.eq_nil_of_length_eq_zero h.2.1];exact Qj _
 cases h
theorem Ry {t:Z9} {p:List Int} (hv:ZU t=true) (h:(ZM t p).2=0):(ZM t p).1=Z7 (ZM t p).1.kids/\(ZP t p).2=true/\Y9 (Z7 (ZM t p).1.kids)=true:=by
 obtain⟨h1,h2⟩:=zGx hv h;have aa:=Yb hv;have h3:=Rf hv h1;obtain⟨h4,_⟩:=Rc p t h1 aa.2.2.1 aa.2.1;rw[h2];rw[h3] at h4;exact⟨h3,h1,h4⟩
theorem zOn {t:Z9} {p:List Int} (h:(ZM t p).2≠0):(ZM t p).1=ZN:=by
 unfold ZM at h ⊢;by_cases h1:ZU t=false
 ·rw[if_pos h1]
 rw[if_neg h1] at h ⊢;by_cases h2:(ZP t p).2=false
 ·rw[if_pos h2]
 rw[if_neg h2] at h;exact absurd rfl h
theorem VI {t:Z9} {p:List Int} {l:List Z9} (hv:ZU t=true) (hf:(ZP t p).2=true):(ZU (ZV t p l)=true/\WG t p l=(ZV t p l,0))\/(ZU (ZV t p l)=false/\(WG t p l).1=ZN/\(WG t p l).2≠0):=by
 unfold WG;rw[if_neg (by simp[hv]),if_neg (by simp[hf])];cases h1:ZU (ZV t p l)
 ·right;refine⟨rfl,?_⟩;cases ZU (Z7 l)<;>simp
 left;rw[zPw hf h1];simp
theorem zOy (t:Z9) (op:ZL) (A Ar An:Option Addr) (cap cr cn:Nat) (w:World) (hv:Z8 Z6 w (Lt w.heap.size) t.kids (.slice A t.kids.length cap)) (aM:Zk t) (aV:ZR t<=900000) (bH:op.text.size<=maxLen) (hr:Z0 w (Lt w.heap.size) op.row (.slice Ar op.row.length cr)) (hn:Z8 Z6 w (Lt w.heap.size) op.nodes (.slice An op.nodes.length cn)) :
  Calls Tryz.prog 116 #[.agg #[.int .i64 t.kind,.string t.text,.int .i64 t.cols,.slice A t.kids.length cap],.agg (Zm op (.slice Ar op.row.length cr) (.slice An op.nodes.length cn))] w (XB w (Zw t op).1 (Zw t op).2):=by
 have C1:Hid (∀W,Below w.heap.size w W->Calls Tryz.prog 53 #[.agg #[.int .i64 t.kind,.string t.text,.int .i64 t.cols,.slice A t.kids.length cap]] W fun e w'=>e=.returned (.bool (ZU t))/\Below W.heap.size W w'):=fun W hW=>Wh t A cap W (hv.below hW hW.size) aM.2.2
 have C2:Hid (∀W,Below w.heap.size w W->Calls Tryz.prog 55 #[.agg (Zm op (.slice Ar op.row.length cr) (.slice An op.nodes.length cn))] W (XA W (Zb op))):=fun W hW=>zM9 op op.row.length Ar An cr cn W (hn.below hW hW.size)
 have C3:Hid (∀W,Below w.heap.size w W->Calls Tryz.prog 83 #[.agg #[.int .i64 t.kind,.string t.text,.int .i64 t.cols,.slice A t.kids.length cap],.slice Ar op.row.length cr] W (XB W (ZM t op.row).1 (ZM t op.row).2)):=fun W hW=>zKi t op.row A Ar cap cr W (hv.below hW hW.size) aM aV (hr.below hW hW.size)
 have cZ:Hid (ZU t=false->Zw t op=(ZN,1)):=fun h=>by unfold Zw;rw[if_pos h]
 have cO:Hid (ZU t=true->Zb op=false->Zw t op=(ZN,4)):=fun h h1=>by unfold Zw;rw[if_neg (by simp[h]),if_pos h1]
 have bg:Hid (ZU t=true->Zb op=true->(ZM t op.row).2≠0->Zw t op=(ZN,(ZM t op.row).2)/\(ZM t op.row).1=ZN):=fun h h1 h2=>⟨by unfold Zw;rw[if_neg (by simp[h]),if_neg (by simp[h1]),if_pos h2],zOn h2⟩
 have ak:Hid (ZU t=true->Zb op=true->(ZM t op.row).2=0->(ZM t op.row).1=Z7 (ZM t op.row).1.kids/\(∀W Ax cx,Below w.heap.size w W->(∀S:Nat->Prop,(∀q,S q->q<W.heap.size)->(∀q,q<w.heap.size->S q)->Z8 Z6 W S (ZM t op.row).1.kids (.slice Ax (ZM t op.row).1.kids.length cx) ->
   Calls Tryz.prog 143 #[.agg (Yt op (.slice Ar op.row.length cr) (.slice An op.nodes.length cn) (.slice Ax (ZM t op.row).1.kids.length cx))] W (Xz S W (ZH (ZM t op.row).1.kids op)))) /\
   ((ZH (ZM t op.row).1.kids op).2≠0->Zw t op=(ZN,(ZH (ZM t op.row).1.kids op).2)) /\
   ((
    ZH (ZM t op.row).1.kids op).2=0->(∀W Al cl,Below w.heap.size w W->Z8 Z6 W (Lt W.heap.size) (ZH (ZM t op.row).1.kids op).1 (.slice Al (ZH (ZM t op.row).1.kids op).1.length cl) ->
    Calls Tryz.prog 144 #[.agg #[.int .i64 t.kind,.string t.text,.int .i64 t.cols,.slice A t.kids.length cap],.slice Ar op.row.length cr,.agg #[.int .i64 1,.string ⟨#[]⟩,.int .i64 0,.slice Al (ZH (ZM t op.row).1.kids op).1.length cl]] W (XB W (WG t op.row (ZH (ZM t op.row).1.kids op).1).1 (WG t op.row (ZH (ZM t op.row).1.kids op).1).2)) /\
    ((Zw t op=WG t op.row (ZH (ZM t op.row).1.kids op).1/\(WG t op.row (ZH (ZM t op.row).1.kids op).1).2=0)\/(Zw t op=(ZN,6)/\(WG t op.row (ZH (ZM t op.row).1.kids op).1).2≠0/\(WG t op.row (ZH (ZM t op.row).1.kids op).1).1=ZN)))):=fun h h1 h2=>by
  obtain⟨e1,e2,e3⟩:=Ry h h2;have bY:=(Yb h).1;have hrc:=zE5 t op.row bY;have hnc:=zLu h1;refine⟨e1,fun W Ax cx hW S hS cK hx=>zM8 op _ _ Ar An Ax cr cn cx W S hS hx (hn.keep (fun q hq=>hW.cell hq) cK) h1 e3 (by omega) (by omega) bH,fun h3=>by unfold Zw;rw[if_neg (by simp[h]),if_neg (by simp[h1]),if_neg (by simp[h2]),if_pos h3],fun h3=>⟨fun W Al cl hW hx=>VH t op.row _ A Ar Al cap cr cl W (hv.below hW hW.size) aM aV (hr.below hW hW.size) hx,?_⟩⟩;rcases VI (l:=(ZH (ZM t op.row).1.kids op).1) h e2 with ⟨q1,q2⟩|⟨q1,q2,q3⟩
  ·left;refine⟨?_,by rw[q2]⟩;unfold Zw;rw[if_neg (by simp[h]),if_neg (by simp[h1]),if_neg (by simp[h2]),if_neg (by simp[h3]),if_neg (by rw[q1];simp),q2]
  right;refine⟨?_,q3,q2⟩;unfold Zw;rw[if_neg (by simp[h]),if_neg (by simp[h1]),if_neg (by simp[h2]),if_neg (by simp[h3]),if_pos q1]
 generalize Zw t op=bN at *;generalize cu:ZU t=bv at *;generalize cB:Zb op=bf at *;generalize ZM t op.row=RR at *;obtain⟨⟨rk,rt,rc,ag⟩,re⟩:=RR;simp only[Z9.kind,Z9.text,Z9.cols,Z9.kids] at bg ak C3;generalize ZH ag op=CH at *;obtain⟨cx,ce⟩:=CH;simp only at ak;generalize WG t op.row cx=WR at *;obtain⟨⟨wk,wt,wc,af⟩,we⟩:=WR;simp only[Z9.kind,Z9.text,Z9.cols,Z9.kids] at ak;clear hv aM aV bH hr hn cu cB;obtain⟨kind,row,at_,n,nodes,slot,old,text⟩:=op;simp only[Zm,Yt] at *;obtain⟨W0,aC⟩:∃W0,((w.alloc (Obj.cells #[.int .i64 t.kind,.string t.text,.int .i64 t.cols,.slice A t.kids.length cap] 24)).alloc (Obj.cells #[.int .i64 kind,.slice Ar row.length cr,.int .i64 at_,.int .i64 n,.slice An nodes.length cn,.int .i64 slot,.string old,.string text] 49)).alloc (.cells #[.int .i64 0,.string ⟨#[]⟩,.int .i64 0,.slice none 0 0] 24)=W0:=⟨_,rfl⟩;have ah:Hid (W0.heap.size=w.heap.size+1+1+1):=by show _=_;rw[<-aC];simp
 have KB:Hid (∀W,Below W0.heap.size W0 W->FB W w.heap.size (.int .i64 t.kind) (.string t.text) (.int .i64 t.cols) (.slice A t.kids.length cap)/\Ym W (w.heap.size+1) ⟨kind,row,at_,n,nodes,slot,old,text⟩ (.slice Ar row.length cr) (.slice An nodes.length cn)/\FB W (w.heap.size+1+1) (.int .i64 0) (.string ⟨#[]⟩) (.int .i64 0) (.slice none 0 0)/\Below w.heap.size w W/\w.heap.size+3<=W.heap.size):=by
  intro W hW;have hz:W0.heap.size=w.heap.size+1+1+1:=ah.out;refine⟨FB.below (B:=W0.heap.size) ?_ hW (by omega),Ym.below (B:=W0.heap.size) ?_ hW (by omega),FB.below (B:=W0.heap.size) ?_ hW (by omega),Below.trans ?_ (hW.mono (by omega)),by have:=hW.size;omega⟩
  ·rw[<-aC];exact((FB.new w _ _ _ _ _ rfl).below (ZW _ _) (by simp)).below (ZW _ _) (by simp;omega)
  ·rw[<-aC];have h9:=Ym.new (w.alloc (Obj.cells #[.int .i64 t.kind,.string t.text,.int .i64 t.cols,.slice A t.kids.length cap] 24)) ⟨kind,row,at_,n,nodes,slot,old,text⟩ (.slice Ar row.length cr) (.slice An nodes.length cn) 49;rw[show (w.alloc (Obj.cells #[.int .i64 t.kind,.string t.text,.int .i64 t.cols,.slice A t.kids.length cap] 24)).heap.size=w.heap.size+1 by simp] at h9;exact h9.below (ZW _ _) (by simp)
  ·rw[<-aC];exact FB.new _ _ _ _ _ _ (by simp)
  rw[<-aC];exact Zy (Zy (ZW _ _) _) _
 obtain⟨⟨⟨m0,m1,m2,m3⟩,_⟩,⟨o0,o1,o2,o3,o4,o5,o6,o7⟩,⟨⟨c0,c1,c2,c3⟩,⟨f0,f1,f2,f3⟩⟩,aB,bU⟩:=KB.out W0 (Qg _ _);have bu:=hid aB;clear aB;go_enter Tryz.func116,Tryz.ntmps116
 go_wp2_with fail
 refine(C1.out _ bu.out).mono ?_;rintro e w1 ⟨rfl,aZ⟩;clear m0 m1 m2 m3 o0 o1 o2 o3 o4 o5 o6 o7 c0 c1 c2 c3 f0 f1 f2 f3;clear bU;have bR:=hid aZ;obtain⟨⟨⟨m0,m1,m2,m3⟩,_⟩,⟨o0,o1,o2,o3,o4,o5,o6,o7⟩,⟨⟨c0,c1,c2,c3⟩,⟨f0,f1,f2,f3⟩⟩,aA,hz1⟩:=KB.out w1 aZ;have aI:=hid aA;clear aZ aA;cases bv
 ·have HC:=hid (Qh c0 (Qh c1 (Qh c2 c3)))
  go_wp2_with fail
  generalize hW:(((w1.setCell _ (.int .i64 0)).setCell _ (.string ⟨#[]⟩)).setCell _ (.int .i64 0)).setCell _ (.slice none 0 0)=W;obtain⟨⟨r0,r1,r2,r3⟩,rz,rb,ro,_⟩:=four HC.out.1 HC.out.2.1 HC.out.2.2.1 HC.out.2.2.2 _ _ _ _ hW.symm;have ae:=hid (rb w.heap.size w (by omega) aI.out);clear hW ro rb;refine bodyPost_ret (v:=.tuple #[.agg #[.int .i64 0,.string ⟨#[]⟩,.int .i64 0,.slice none 0 0],.int .i64 1]) (by simp[results,Tryz.results116,go_sem,r0,r1,r2,r3]) rfl ?_;rw[cZ.out (by trivial)];exact⟨_,rfl,Z8.nil_ 0 (Qj _) none,ae.out⟩
 go_wp2_with fail
 refine(C2.out _ aI.out).mono ?_;rintro e w2 ⟨rfl,bL⟩;have bB:=hid (bR.out.trans (bL.mono bR.out.size));clear m0 m1 m2 m3 o0 o1 o2 o3 o4 o5 o6 o7 c0 c1 c2 c3 f0 f1 f2 f3;obtain⟨⟨⟨m0,m1,m2,m3⟩,_⟩,⟨o0,o1,o2,o3,o4,o5,o6,o7⟩,⟨⟨c0,c1,c2,c3⟩,⟨f0,f1,f2,f3⟩⟩,az,hz2⟩:=KB.out w2 bB.out;have aj:=hid az;clear bL az;cases bf
 ·have HC:=hid (Qh c0 (Qh c1 (Qh c2 c3)))
  go_wp2_with fail
  generalize hW:(((w2.setCell _ (.int .i64 0)).setCell _ (.string ⟨#[]⟩)).setCell _ (.int .i64 0)).setCell _ (.slice none 0 0)=W;obtain⟨⟨r0,r1,r2,r3⟩,rz,rb,ro,_⟩:=four HC.out.1 HC.out.2.1 HC.out.2.2.1 HC.out.2.2.2 _ _ _ _ hW.symm;have ae:=hid (rb w.heap.size w (by omega) aj.out);clear hW ro rb;refine bodyPost_ret (v:=.tuple #[.agg #[.int .i64 0,.string ⟨#[]⟩,.int .i64 0,.slice none 0 0],.int .i64 4]) (by simp[results,Tryz.results116,go_sem,r0,r1,r2,r3]) rfl ?_;rw[cO.out (by trivial) (by trivial)];exact⟨_,rfl,Z8.nil_ 0 (Qj _) none,ae.out⟩
 go_wp2_with fail
 refine(C3.out _ aj.out).mono ?_;rintro e w3 ⟨v3,rfl,aL,aY⟩;simp only[Z9.kind,Z9.text,Z9.cols,Z9.kids] at aL ⊢;obtain⟨A3,aD,rfl⟩:=aL.form;have bA:=hid (bB.out.trans (aY.mono bB.out.size));have dn:Hid (Z8 Z6 w3 (Lt w3.heap.size) ag (.slice A3 ag.length aD)):=aL.keep (fun _ _=>rfl) (fun k hk=>hk.2);obtain⟨W4,aS⟩:∃W4,w3.alloc (.cells #[.int .i64 rk,.string rt,.int .i64 rc,.slice A3 ag.length aD] 24)=W4:=⟨_,rfl⟩;have aX:Below w3.heap.size w3 W4:=by rw[<-aS];exact ZW _ _
 have bz:Hid (Below W0.heap.size W0 W4):=bA.out.trans (aX.mono bA.out.size);obtain⟨⟨t0,t1,t2,t3⟩,⟨g0,g1,g2,g3⟩⟩:FB W4 w3.heap.size (.int .i64 rk) (.string rt) (.int .i64 rc) (.slice A3 ag.length aD):=by rw[<-aS];exact FB.new _ _ _ _ _ _ rfl
 have dm:Hid (Z8 Z6 W4 (fun q=>q<w3.heap.size) ag (.slice A3 ag.length aD)):=dn.out.keep (fun q hq=>aX.cell hq) (fun q hq=>hq);have dz:Hid (w.heap.size<=w3.heap.size):=Qf aj.out.size aY.size;have H3:Hid (W0.heap.size<=w3.heap.size):=bA.out.size;have aU:Hid (w3.heap.size<W4.heap.size):=Y0 t0;clear m0 m1 m2 m3 o0 o1 o2 o3 o4 o5 o6 o7 c0 c1 c2 c3 f0 f1 f2 f3;obtain⟨⟨⟨m0,m1,m2,m3⟩,_⟩,⟨o0,o1,o2,o3,o4,o5,o6,o7⟩,⟨⟨c0,c1,c2,c3⟩,⟨f0,f1,f2,f3⟩⟩,ay,hz4⟩:=KB.out W4 bz.out;have aH:=hid ay;clear aL aY ay aX
 go_upto_region 6 with fail
 try rw[aS]
 clear aS;by_cases aN:re=0;rotate_left
 ·obtain⟨bD,bW⟩:=bg.out (by trivial) (by trivial) aN;have i9:(re==0)=false:=by simpa using aN
  have bC:(re != 0)=true:=by simpa using aN
  have aa:=hid bD;clear bD ak bW t0 t1 t2 t3 g0 g1 g2 g3;have HC:=hid (Qh c0 (Qh c1 (Qh c2 c3)))
  go_wp2_with fail
  generalize hW:(((W4.setCell _ (.int .i64 0)).setCell _ (.string ⟨#[]⟩)).setCell _ (.int .i64 0)).setCell _ (.slice none 0 0)=W;obtain⟨⟨r0,r1,r2,r3⟩,rz,rb,ro,_⟩:=four HC.out.1 HC.out.2.1 HC.out.2.2.1 HC.out.2.2.2 _ _ _ _ hW.symm;have ae:=hid (rb w.heap.size w (by omega) aH.out);clear hW ro rb;refine bodyPost_ret (v:=.tuple #[.agg #[.int .i64 0,.string ⟨#[]⟩,.int .i64 0,.slice none 0 0],.int .i64 re]) (by simp[results,Tryz.results116,go_sem,r0,r1,r2,r3]) rfl ?_;rw[aa.out];exact⟨_,rfl,Z8.nil_ 0 (Qj _) none,ae.out⟩
 subst aN;obtain⟨e1,bM,hE,hO⟩:=ak.out (by trivial) (by trivial) rfl;have dx:=hid bM;have HE:=hid hE;have HO:=hid hO;unfold Z7 at e1;injection e1 with x1 x2 x3 x4
 subst x1 x2 x3;clear bg ak bM hE hO x4
 go_wp2_with fail
 refine(dx.out W4 A3 aD aH.out (fun q=>q<w3.heap.size) (fun q hq=>Nat.lt_trans hq aU.out) (fun q hq=>Qk hq dz.out) dm.out).mono ?_;rintro e w5 ⟨v5,rfl,aK,aQ⟩;simp only at aK ⊢;obtain⟨A5,c5,rfl⟩:=aK.form;obtain⟨⟨t0,t1,t2,t3⟩,⟨g0,g1,g2,g3⟩⟩:=FB.below (W':=w5) (B:=W4.heap.size) (b:=w3.heap.size) ⟨⟨t0,t1,t2,t3⟩,g0,g1,g2,g3⟩ aQ aU.out;have bZ:∀k,Lt w5.heap.size k->True:=fun _ _=>trivial
 have bQ:=hid (bz.out.trans (aQ.mono bz.out.size));have aT:Hid (Below W0.heap.size W0 (w5.setCell ⟨w3.heap.size,3,none⟩ (.slice A5 cx.length c5))):=bQ.out.setCell (p:=⟨w3.heap.size,3,none⟩) H3.out _;have u0:(w5.setCell ⟨w3.heap.size,3,none⟩ (.slice A5 cx.length c5)).cell? ⟨w3.heap.size,0,none⟩=some (.int .i64 1):=(World.cell?_setCell_other _ _ _ _ (by intro e;injection e with e e';cases e')).trans t0;have u1:(w5.setCell ⟨w3.heap.size,3,none⟩ (.slice A5 cx.length c5)).cell? ⟨w3.heap.size,1,none⟩=some (.string ⟨#[]⟩):=(World.cell?_setCell_other _ _ _ _ (by intro e;injection e with e e';cases e')).trans t1;have u2:(w5.setCell ⟨w3.heap.size,3,none⟩ (.slice A5 cx.length c5)).cell? ⟨w3.heap.size,2,none⟩=some (.int .i64 0):=(World.cell?_setCell_other _ _ _ _ (by intro e;injection e with e e';cases e')).trans t2;have u3:(w5.setCell ⟨w3.heap.size,3,none⟩ (.slice A5 cx.length c5)).cell? ⟨w3.heap.size,3,none⟩=some (.slice A5 cx.length c5):=World.cell?_setCell_same _ _ _ t3;clear m0 m1 m2 m3 o0 o1 o2 o3 o4 o5 o6 o7 c0 c1 c2 c3 f0 f1 f2 f3;obtain⟨⟨⟨m0,m1,m2,m3⟩,_⟩,⟨o0,o1,o2,o3,o4,o5,o6,o7⟩,⟨⟨c0,c1,c2,c3⟩,⟨f0,f1,f2,f3⟩⟩,aW,hz5⟩:=KB.out w5 bQ.out;clear aW
 go_upto_region 9 with fail
 have bI:Z8 Z6 (w5.setCell ⟨w3.heap.size,3,none⟩ (.slice A5 cx.length c5)) (Lt (w5.setCell ⟨w3.heap.size,3,none⟩ (.slice A5 cx.length c5)).heap.size) cx (.slice A5 cx.length c5):=aK.keep (fun q hq=>World.cell?_setCell_other _ _ _ _ (by
  intro e;rw[<-e] at hq;have:=aU.out;rcases hq with hq|hq
  ·exact Nat.lt_irrefl _ hq
  ·have:=hq.1;simp only at this;omega)) (fun k hk=>by
  have h9:=aU.out;have h8:=aQ.size;unfold Lt;simp only[World.setCell];rcases hk with hk|hk
  ·simp;omega
  simpa using hk.2)
 generalize (w5.setCell ⟨w3.heap.size,3,none⟩ (.slice A5 cx.length c5))=W6 at *;have di:=hid bI
 try clear m0 m1 m2 m3 o0 o1 o2 o3 o4 o5 o6 o7 c0 c1 c2 c3 f0 f1 f2 f3
 obtain⟨⟨⟨m0,m1,m2,m3⟩,_⟩,⟨o0,o1,o2,o3,o4,o5,o6,o7⟩,⟨⟨c0,c1,c2,c3⟩,⟨f0,f1,f2,f3⟩⟩,ax,hz6⟩:=KB.out W6 aT.out;have aG:=hid ax;clear t0 t1 t2 t3 g0 g1 g2 g3 aK aQ bI ax bZ;by_cases aO:ce=0;rotate_left
 ·have i9:(ce==0)=false:=by simpa using aO
  have bC:(ce != 0)=true:=by simpa using aO
  have aa:=hid (HE.out aO);clear u0 u1 u2 u3;have HC:=hid (Qh c0 (Qh c1 (Qh c2 c3)))
  go_wp2_with fail
  generalize hW:(((W6.setCell _ (.int .i64 0)).setCell _ (.string ⟨#[]⟩)).setCell _ (.int .i64 0)).setCell _ (.slice none 0 0)=W;obtain⟨⟨r0,r1,r2,r3⟩,rz,rb,ro,_⟩:=four HC.out.1 HC.out.2.1 HC.out.2.2.1 HC.out.2.2.2 _ _ _ _ hW.symm;have ae:=hid (rb w.heap.size w (by omega) aG.out);clear hW ro rb;refine bodyPost_ret (v:=.tuple #[.agg #[.int .i64 0,.string ⟨#[]⟩,.int .i64 0,.slice none 0 0],.int .i64 ce]) (by simp[results,Tryz.results116,go_sem,r0,r1,r2,r3]) rfl ?_;rw[aa.out];exact⟨_,rfl,Z8.nil_ 0 (Qj _) none,ae.out⟩
 subst aO;obtain⟨bG,bJ⟩:=HO.out rfl;have df:=hid (bG W6 A5 c5 aG.out di.out);have bn:=hid bJ;clear bG bJ HE HO
 go_wp2_with fail
 refine df.out.mono ?_;rintro e w7 ⟨v7,rfl,aJ,bK⟩;simp only[Z9.kind,Z9.text,Z9.cols,Z9.kids] at aJ ⊢;obtain⟨A7,c7,rfl⟩:=aJ.form;have bP:=hid (aT.out.trans (bK.mono aT.out.size));obtain⟨W8,aR⟩:∃W8,w7.alloc (.cells #[.int .i64 wk,.string wt,.int .i64 wc,.slice A7 af.length c7] 24)=W8:=⟨_,rfl⟩;have aP:Below w7.heap.size w7 W8:=by rw[<-aR];exact ZW _ _
 have dw:Hid (Below W0.heap.size W0 W8):=bP.out.trans (aP.mono bP.out.size);obtain⟨⟨t0,t1,t2,t3⟩,⟨g0,g1,g2,g3⟩⟩:FB W8 w7.heap.size (.int .i64 wk) (.string wt) (.int .i64 wc) (.slice A7 af.length c7):=by rw[<-aR];exact FB.new _ _ _ _ _ _ rfl
 have dh:Hid (Z8 Z6 W8 (fun k=>W0.heap.size<=k/\k<W8.heap.size) af (.slice A7 af.length c7)):=aJ.keep (fun q hq=>aP.cell hq.2) (fun k hk=>⟨Qf aT.out.size hk.1,Qk hk.2 aP.size⟩);clear m0 m1 m2 m3 o0 o1 o2 o3 o4 o5 o6 o7 c0 c1 c2 c3 f0 f1 f2 f3;obtain⟨⟨⟨m0,m1,m2,m3⟩,_⟩,⟨o0,o1,o2,o3,o4,o5,o6,o7⟩,⟨⟨c0,c1,c2,c3⟩,⟨f0,f1,f2,f3⟩⟩,av,hz8⟩:=KB.out W8 dw.out;have aF:=hid av;clear aJ bK av aP u0 u1 u2 u3
 go_upto_region 12 with fail
 try rw[aR]
 clear aR;by_cases au:we=0;rotate_left
 ·have i9:(we==0)=false:=by simpa using au
  have bC:(we != 0)=true:=by simpa using au
  have aa:Hid (bN=(ZN,6)):=by
   rcases bn.out with h|h
   ·exact absurd h.2 au
   exact h.1
  clear t0 t1 t2 t3 g0 g1 g2 g3;have HC:=hid (Qh c0 (Qh c1 (Qh c2 c3)))
  go_wp2_with fail
  generalize hW:(((W8.setCell _ (.int .i64 0)).setCell _ (.string ⟨#[]⟩)).setCell _ (.int .i64 0)).setCell _ (.slice none 0 0)=W;obtain⟨⟨r0,r1,r2,r3⟩,rz,rb,ro,_⟩:=four HC.out.1 HC.out.2.1 HC.out.2.2.1 HC.out.2.2.2 _ _ _ _ hW.symm;have ae:=hid (rb w.heap.size w (by omega) aF.out);clear hW ro rb;refine bodyPost_ret (v:=.tuple #[.agg #[.int .i64 0,.string ⟨#[]⟩,.int .i64 0,.slice none 0 0],.int .i64 6]) (by simp[results,Tryz.results116,go_sem,r0,r1,r2,r3]) rfl ?_;rw[aa.out];exact⟨_,rfl,Z8.nil_ 0 (Qj _) none,ae.out⟩
 have aa:Hid (bN=(.mk wk wt wc af,we)):=by
  rcases bn.out with h|h
  ·exact h.1
  exact absurd au h.2.1
 subst au;have HC:=hid (Qh c0 (Qh c1 (Qh c2 c3)));clear bn
 go_wp2_with fail
 generalize hW:(((W8.setCell _ (.int .i64 wk)).setCell _ (.string wt)).setCell _ (.int .i64 wc)).setCell _ (.slice A7 af.length c7)=W;obtain⟨⟨r0,r1,r2,r3⟩,rz,rb,ro,_⟩:=four HC.out.1 HC.out.2.1 HC.out.2.2.1 HC.out.2.2.2 _ _ _ _ hW.symm;have ae:=hid (rb w.heap.size w (by omega) aF.out);have bq:Hid (Z8 Z6 W (fun k=>w.heap.size<=k/\k<W.heap.size) af (.slice A7 af.length c7)):=dh.out.keep (fun q hq=>ro q (by have:=hq.1;have:=ah.out;omega)) (fun k hk=>⟨by have:=hk.1;have:=ah.out;omega,by rw[rz];exact hk.2⟩);clear hW ro rb;refine bodyPost_ret (v:=.tuple #[.agg #[.int .i64 wk,.string wt,.int .i64 wc,.slice A7 af.length c7],.int .i64 0]) (by simp[results,Tryz.results116,go_sem,r0,r1,r2,r3]) rfl ?_;rw[aa.out];exact⟨_,rfl,bq.out,ae.out⟩
