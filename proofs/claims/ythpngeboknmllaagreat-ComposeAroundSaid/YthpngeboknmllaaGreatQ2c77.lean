/- T -/
import Derived.Test.YthpngeboknmllaaGreatQ8f5d
import Derived.Test.YthpngeboknmllaaGreatQa125
import Derived.Test.YthpngeboknmllaaGreatQ2247
import Derived.Test.YthpngeboknmllaaGreatQa2f4
import Derived.Test.YthpngeboknmllaaGreatQ5ffd
set_option linter.unusedVariables false
set_option linter.unusedSimpArgs false
set_option maxHeartbeats 16000000
set_option maxRecDepth 100000
namespace Go.Proofs.YthpngeboknmllaaGreat
open Go.RowKit
theorem zO5 (l:List Z9) (op:ZB) (A Ar An:Option Addr) (cap lr cr cn:Nat) (w:World) (S:Nat->Prop) (hS:∀q,S q->q<w.heap.size) (hl:Z8 Z7 w S l (.slice A l.length cap)) (hn:Z8 Z7 w S op.nodes (.slice An op.nodes.length cn)) (af:Z4 op.at_) (ag:Z4 op.n) (ah:op.text.size<=maxLen) (ae:ZT l<=1000000) (aa:ZT op.nodes<=1000000) (hf:Yo op=true) :
  Calls Tryz.prog 65 #[.slice A l.length cap,.agg (Zu op (.slice Ar lr cr) (.slice An op.nodes.length cn))] w (XB S w (ZC l op)):=by
 obtain⟨kind,row,at_,n,nodes,slot,old,text⟩:=op;simp only at *;unfold Yo at hf;simp only at hf;split at hf
 ·rename_i hk;rcases hk with rfl|rfl
  ·exact TT l row at_ n slot nodes old text A Ar An cap lr cr cn w S hS hl hn af ae aa
  exact TR l row at_ n slot nodes old text A Ar An cap lr cr cn w S hS hl hn af ae aa
 split at hf
 ·rename_i hk;simp only[Bool.and_eq_true,decide_eq_true_eq] at hf;rcases hk with rfl|rfl
  ·exact Vb l row at_ n slot nodes old text A Ar An cap lr cr cn w S hS hl hn af ae aa hf.1 ag hf.2.1
  exact TV l row at_ n slot nodes old text A Ar An cap lr cr cn w S hS hl hn af ae aa hf.1 hf.2.1
 split at hf
 ·rename_i hk;subst hk;exact TU l row at_ n slot nodes old text A Ar An cap lr cr cn w S hS hl hn af ae aa ah
 cases hf
def Ze (t:Z9) (op:ZB):Z9×Int :=
 if ZN t=false then (ZJ,1)
 else if Yo op=false then (ZJ,4)
 else if (ZR t op.row).2≠0 then (ZJ,(ZR t op.row).2)
 else if (ZC (ZR t op.row).1.kids op).2≠0 then (ZJ,(ZC (ZR t op.row).1.kids op).2)
 else if ZN (ZV t op.row (ZC (ZR t op.row).1.kids op).1)=false then (ZJ,6)
 else (ZV t op.row (ZC (ZR t op.row).1.kids op).1,0)
def Sq (S:Nat->Prop) (w:World) (r:Z9×Int) (e:Ending) (w':World):Prop :=
 ∃v,e=.returned (.tuple #[.agg #[.int .i64 r.1.kind,.string r.1.text,.int .i64 r.1.cols,v],.int .i64 r.2])/\Z8 Z7 w' (NS S w.heap.size w') r.1.kids v/\Below w.heap.size w w'
structure ZB.Fits (op:ZB):Prop where
 at_:Z4 op.at_
 n:Z4 op.n
 text:op.text.size<=maxLen
 nodes:ZT op.nodes<=100000
theorem zVp (t:Z9) (op:ZB) (A Ar An:Option Addr) (cap cr cn:Nat) (w:World) (S:Nat->Prop) (hS:∀q,S q->q<w.heap.size) (hv:Z8 Z7 w S t.kids (.slice A t.kids.length cap)) (bg:Zt t) (bJ:ZW t<=900000) (aR:op.Fits) (hr:Z0 w (Lt w.heap.size) op.row (.slice Ar op.row.length cr)) (hn:Z8 Z7 w S op.nodes (.slice An op.nodes.length cn)) :
  Calls Tryz.prog 30 #[.agg #[.int .i64 t.kind,.string t.text,.int .i64 t.cols,.slice A t.kids.length cap],.agg (Zu op (.slice Ar op.row.length cr) (.slice An op.nodes.length cn))] w (Sq S w (Ze t op)):=by
 have bD:∀{W},Below w.heap.size w W->∀q,S q->q<W.heap.size:=fun hW q hq=>QV (hS q hq) hW.size
 have C1:Hid (∀W,Below w.heap.size w W->Calls Tryz.prog 29 #[.agg #[.int .i64 t.kind,.string t.text,.int .i64 t.cols,.slice A t.kids.length cap]] W fun e w'=>e=.returned (.bool (ZN t))/\Below W.heap.size W w'):=fun W hW=>Tm t A cap W (UM hv hS hW) bg.2.2 (by omega)
 have C2:Hid (∀W,Below w.heap.size w W->Calls Tryz.prog 63 #[.agg (Zu op (.slice Ar op.row.length cr) (.slice An op.nodes.length cn))] W fun e w'=>e=.returned (.bool (Yo op))/\Below W.heap.size W w'):=fun W hW=>zOv op op.row.length Ar An cr cn W (UM hn hS hW) (QP aR.nodes (by omega))
 have C3:Hid (∀W,Below w.heap.size w W->Calls Tryz.prog 64 #[.agg #[.int .i64 t.kind,.string t.text,.int .i64 t.cols,.slice A t.kids.length cap],.slice Ar op.row.length cr] W (U1 S W (ZR t op.row).1.kind (ZR t op.row).1.text (ZR t op.row).1.cols (ZR t op.row).1.kids (ZR t op.row).2)):=fun W hW=>zF0 t op.row A Ar cap cr W S (bD hW) (YH hv hS hW) bg.2.2 bJ (hr.below hW hW.size)
 have C4:Hid (∀W A' cap',Below w.heap.size w W->Yo op=true->Z8 Z7 W S (ZR t op.row).1.kids (.slice A' (ZR t op.row).1.kids.length cap')->Calls Tryz.prog 65 #[.slice A' (ZR t op.row).1.kids.length cap',.agg (Zu op (.slice Ar op.row.length cr) (.slice An op.nodes.length cn))] W (XB S W (ZC (ZR t op.row).1.kids op))):=fun W A' cap' hW hf hl =>
  zO5 (ZR t op.row).1.kids op A' Ar An cap' op.row.length cr cn W S (bD hW) hl (YH hn hS hW) aR.at_ aR.n aR.text (by have:=zE5 t op.row bJ;omega) (QP aR.nodes (by omega)) hf
 have C5:Hid (∀W b A' cap',Below w.heap.size w W->ZN t=true->(ZR t op.row).2=0->(ZC (ZR t op.row).1.kids op).1.length<=1000000->Z8 Z7 W (NS S b W) (ZC (ZR t op.row).1.kids op).1 (.slice A' (ZC (ZR t op.row).1.kids op).1.length cap') ->
   Calls Tryz.prog 66 #[.agg #[.int .i64 t.kind,.string t.text,.int .i64 t.cols,.slice A t.kids.length cap],.slice Ar op.row.length cr,.slice A' (ZC (ZR t op.row).1.kids op).1.length cap'] W (XO (NS S b W) W (ZV t op.row (ZC (ZR t op.row).1.kids op).1))):=fun W b A' cap' hW dm dn dw hl =>
  zPz op.row t (ZC (ZR t op.row).1.kids op).1 A A' Ar cap cap' cr W (NS S b W) (fun q hq=>by
   rcases hq with hq|hq
   ·exact bD hW q hq
   exact hq.2) (zGx dm dn).1 (by omega) bg dw ((YH hv hS hW).keep (fun _ _=>rfl) (fun q hq=>.inl hq)) hl (hr.below hW hW.size)
 have C6:Hid (∀W A' cap',Z8 Z7 W (Lt W.heap.size) (ZV t op.row (ZC (ZR t op.row).1.kids op).1).kids (.slice A' (ZV t op.row (ZC (ZR t op.row).1.kids op).1).kids.length cap')->ZW (ZV t op.row (ZC (ZR t op.row).1.kids op).1)<=100000000 ->
   Calls Tryz.prog 29 #[.agg #[.int .i64 (ZV t op.row (ZC (ZR t op.row).1.kids op).1).kind,.string (ZV t op.row (ZC (ZR t op.row).1.kids op).1).text,.int .i64 (ZV t op.row (ZC (ZR t op.row).1.kids op).1).cols,.slice A' (ZV t op.row (ZC (ZR t op.row).1.kids op).1).kids.length cap']] W fun e w'=>e=.returned (.bool (ZN (ZV t op.row (ZC (ZR t op.row).1.kids op).1)))/\Below W.heap.size W w'):=fun W A' cap' hl hc =>
  Tm _ A' cap' W hl (zKc t op.row _ bg).2.2 (by omega)
 have bI:Hid (ZN t=true->(ZC (ZR t op.row).1.kids op).1.length<=1000000/\ZW (ZV t op.row (ZC (ZR t op.row).1.kids op).1)<=100000000):=fun h=>by
  have h1:=(X0 h).1;have h2:=zE5 t op.row h1;have h3:=zMa (ZR t op.row).1.kids op;have h4:=WG (ZC (ZR t op.row).1.kids op).1;have h5:=zLd op.row t (ZC (ZR t op.row).1.kids op).1;have h6:=aR.nodes;constructor<;>omega
 have HA:Hid ((ZN t=false->Ze t op=(ZJ,1))/\(ZN t=true->(Yo op=false->Ze t op=(ZJ,4))/\(Yo op=true->((ZR t op.row).2≠0->Ze t op=(ZJ,(ZR t op.row).2))/\((ZR t op.row).2=0->((ZC (ZR t op.row).1.kids op).2≠0->Ze t op=(ZJ,(ZC (ZR t op.row).1.kids op).2)) /\
   ((ZC (ZR t op.row).1.kids op).2=0->(ZN (ZV t op.row (ZC (ZR t op.row).1.kids op).1)=false->Ze t op=(ZJ,6))/\(ZN (ZV t op.row (ZC (ZR t op.row).1.kids op).1)=true->Ze t op=(ZV t op.row (ZC (ZR t op.row).1.kids op).1,0))))))):=by
  unfold Ze;refine⟨fun h=>if_pos h,fun h=>?_⟩;rw[if_neg (by simp[h])];refine⟨fun h=>if_pos h,fun h=>?_⟩;rw[if_neg (by simp[h])];refine⟨fun h=>if_pos h,fun h=>?_⟩;rw[if_neg (by simp[h])];refine⟨fun h=>if_pos h,fun h=>?_⟩;rw[if_neg (by simp[h])];exact⟨fun h=>if_pos h,fun h=>if_neg (by simp[h])⟩
 have aJ:=hid hS;have dD:Hid ((ZV t op.row (ZC (ZR t op.row).1.kids op).1).kids=(ZV t op.row (ZC (ZR t op.row).1.kids op).1).kids):=rfl;generalize Ze t op=RES at *;generalize ZV t op.row (ZC (ZR t op.row).1.kids op).1=cu at *;generalize ZC (ZR t op.row).1.kids op=CH at *;generalize ZR t op.row=RR at *;generalize dx:ZN t=bV at *;generalize dA:Yo op=bF at *;generalize dz:ZN cu=bO at *;obtain⟨tk,tx,tc,ts⟩:=t;obtain⟨kind,row,at_,n,nodes,slot,old,text⟩:=op;obtain⟨ok,ox,oc,os⟩:=cu;obtain⟨L,e4⟩:=CH;obtain⟨⟨rk,rx,rc,rs⟩,e3⟩:=RR;simp only[Z9.kind,Z9.text,Z9.cols,Z9.kids] at *;generalize bi:((w.alloc (Obj.cells #[.int .i64 tk,.string tx,.int .i64 tc,.slice A ts.length cap] 24)).alloc (Obj.cells (Zu ⟨kind,row,at_,n,nodes,slot,old,text⟩ (.slice Ar row.length cr) (.slice An nodes.length cn)) 49)).alloc (Obj.cells #[.int .i64 0,.string ⟨#[]⟩,.int .i64 0,.slice none 0 0] 24)=W0;have bW:W0.heap.size=w.heap.size+1+1+1:=by rw[<-bi];simp
 have bG:Below w.heap.size w W0:=by rw[<-bi];exact Zq (Zq (ZX _ _) _) _
 have bY:ZL W0 w.heap.size tk tx tc (.slice A ts.length cap):=by
  rw[<-bi];exact((ZL.new w _ _ _ _ _).below (ZX _ _) (by simp)).below (ZX _ _) (by simp;omega)
 have bZ:Yv W0 (w.heap.size+1) ⟨kind,row,at_,n,nodes,slot,old,text⟩ (.slice Ar row.length cr) (.slice An nodes.length cn):=by
  rw[<-bi];have h:=(Yv.new (w.alloc (Obj.cells #[.int .i64 tk,.string tx,.int .i64 tc,.slice A ts.length cap] 24)) ⟨kind,row,at_,n,nodes,slot,old,text⟩ (.slice Ar row.length cr) (.slice An nodes.length cn) 49).below (ZX _ (Obj.cells #[.int .i64 0,.string ⟨#[]⟩,.int .i64 0,.slice none 0 0] 24)) (by simp);simpa using h
 have bK:ZL W0 (w.heap.size+1+1) 0 ⟨#[]⟩ 0 (.slice none 0 0)/\YJ W0 (w.heap.size+1+1):=by
  rw[<-bi];have h:=ZL.new ((w.alloc (Obj.cells #[.int .i64 tk,.string tx,.int .i64 tc,.slice A ts.length cap] 24)).alloc (Obj.cells (Zu ⟨kind,row,at_,n,nodes,slot,old,text⟩ (.slice Ar row.length cr) (.slice An nodes.length cn)) 49)) 0 ⟨#[]⟩ 0 (.slice none 0 0) 24;have h2:=YJ.new ((w.alloc (Obj.cells #[.int .i64 tk,.string tx,.int .i64 tc,.slice A ts.length cap] 24)).alloc (Obj.cells (Zu ⟨kind,row,at_,n,nodes,slot,old,text⟩ (.slice Ar row.length cr) (.slice An nodes.length cn)) 49)) #[.int .i64 0,.string ⟨#[]⟩,.int .i64 0,.slice none 0 0] 24;exact⟨by simpa using h,by simpa using h2⟩
 have KB:Hid (∀W,Below W0.heap.size W0 W->ZL W w.heap.size tk tx tc (.slice A ts.length cap)/\Yv W (w.heap.size+1) ⟨kind,row,at_,n,nodes,slot,old,text⟩ (.slice Ar row.length cr) (.slice An nodes.length cn)/\ZL W (w.heap.size+1+1) 0 ⟨#[]⟩ 0 (.slice none 0 0)/\YJ W (w.heap.size+1+1)/\Below w.heap.size w W):=fun W hW =>
  ⟨bY.below hW (by omega),bZ.below hW (by omega),bK.1.below hW (by omega),bK.2.below hW (by omega),bG.trans (hW.mono bG.size)⟩
 have cB:=hid bW;simp only[Zu] at *;obtain⟨dh,df,aP,cZ,bL⟩:=KB.out W0 (QQ _ _);have aZ:=hid bG;clear hv hn hr bg aR bJ hS bD bW bG bY bZ bK aP cZ bL dx dA dz dD;obtain⟨m0,m1,m2,m3⟩:=dh;obtain⟨o0,o1,o2,o3,o4,o5,o6,o7⟩:=df;cases bV
 ·go_enter Tryz.func30,Tryz.ntmps30
  go_wp2_with fail
  refine(C1.out _ aZ.out).mono ?_;rintro e w1 ⟨rfl,ah⟩;have ag:=hid ah;clear ah m0 m1 m2 m3 o0 o1 o2 o3 o4 o5 o6 o7;obtain⟨⟨m0,m1,m2,m3⟩,⟨o0,o1,o2,o3,o4,o5,o6,o7⟩,aa,⟨f0,f1,f2,f3⟩,ae⟩:=KB.out w1 ag.out;have af:=hid aa;obtain⟨r0,r1,r2,r3⟩:=aa;have aL:=hid ae;clear ae
  go_wp2_with fail
  generalize hZ:((((w1.setCell _ (.int .i64 0)).setCell _ (.string ⟨#[]⟩)).setCell _ (.int .i64 0)).setCell _ (.slice none 0 0))=Z;obtain⟨⟨e0,e1,e2,aj⟩,aB,ai,aC,_,_⟩:=Xz (o:=0) af.out.1 af.out.2.1 af.out.2.2.1 af.out.2.2.2 _ _ _ _ hZ.symm;simp only[Nat.zero_add] at e1 e2 aj;have aH:=hid (ai w.heap.size w (by omega) aL.out);clear hZ aB ai aC;refine bodyPost_ret (v:=.tuple #[.agg #[.int .i64 0,.string ⟨#[]⟩,.int .i64 0,.slice none 0 0],.int .i64 1]) (by simp[results,Tryz.results30,go_sem,e0,e1,e2,aj]) rfl ?_;rw[HA.out.1 (by trivial)];exact⟨_,rfl,Z8.nil_ 0 (QU _) none,aH.out⟩
 cases bF
 ·go_enter Tryz.func30,Tryz.ntmps30
  go_wp2_with fail
  refine(C1.out _ aZ.out).mono ?_;rintro e w1 ⟨rfl,ah⟩;have ag:=hid ah;clear ah m0 m1 m2 m3 o0 o1 o2 o3 o4 o5 o6 o7;obtain⟨⟨m0,m1,m2,m3⟩,⟨o0,o1,o2,o3,o4,o5,o6,o7⟩,aa,⟨f0,f1,f2,f3⟩,ae⟩:=KB.out w1 ag.out;have af:=hid aa;obtain⟨r0,r1,r2,r3⟩:=aa;have aL:=hid ae;clear ae
  go_wp2_with fail
  refine(C2.out _ aL.out).mono ?_;rintro e w2 ⟨rfl,az⟩;have ak:=hid (ag.out.trans (az.mono ag.out.size));clear az;clear m0 m1 m2 m3 o0 o1 o2 o3 o4 o5 o6 o7 r0 r1 r2 r3 f0 f1 f2 f3 af;obtain⟨⟨m0,m1,m2,m3⟩,⟨o0,o1,o2,o3,o4,o5,o6,o7⟩,aa,⟨f0,f1,f2,f3⟩,ae⟩:=KB.out w2 ak.out;have af:=hid aa;obtain⟨r0,r1,r2,r3⟩:=aa;have aA:=hid ae;clear ae
  go_wp2_with fail
  generalize hZ:((((w2.setCell _ (.int .i64 0)).setCell _ (.string ⟨#[]⟩)).setCell _ (.int .i64 0)).setCell _ (.slice none 0 0))=Z;obtain⟨⟨e0,e1,e2,aj⟩,aB,ai,aC,_,_⟩:=Xz (o:=0) af.out.1 af.out.2.1 af.out.2.2.1 af.out.2.2.2 _ _ _ _ hZ.symm;simp only[Nat.zero_add] at e1 e2 aj;have aH:=hid (ai w.heap.size w (by omega) aA.out);clear hZ aB ai aC;refine bodyPost_ret (v:=.tuple #[.agg #[.int .i64 0,.string ⟨#[]⟩,.int .i64 0,.slice none 0 0],.int .i64 4]) (by simp[results,Tryz.results30,go_sem,e0,e1,e2,aj]) rfl ?_;rw[(HA.out.2 (by trivial)).1 (by trivial)];exact⟨_,rfl,Z8.nil_ 0 (QU _) none,aH.out⟩
 rcases Decidable.em (e3=0) with bC|bC
 case inr =>
  have dF:=hid bC;have i0:(e3 != 0)=true:=by simpa using bC
  go_enter Tryz.func30,Tryz.ntmps30
  go_wp2_with fail
  refine(C1.out _ aZ.out).mono ?_;rintro e w1 ⟨rfl,ah⟩;have ag:=hid ah;clear ah m0 m1 m2 m3 o0 o1 o2 o3 o4 o5 o6 o7;obtain⟨⟨m0,m1,m2,m3⟩,⟨o0,o1,o2,o3,o4,o5,o6,o7⟩,aa,⟨f0,f1,f2,f3⟩,ae⟩:=KB.out w1 ag.out;have af:=hid aa;obtain⟨r0,r1,r2,r3⟩:=aa;have aL:=hid ae;clear ae
  go_wp2_with fail
  refine(C2.out _ aL.out).mono ?_;rintro e w2 ⟨rfl,az⟩;have ak:=hid (ag.out.trans (az.mono ag.out.size));clear az;clear m0 m1 m2 m3 o0 o1 o2 o3 o4 o5 o6 o7 r0 r1 r2 r3 f0 f1 f2 f3 af;obtain⟨⟨m0,m1,m2,m3⟩,⟨o0,o1,o2,o3,o4,o5,o6,o7⟩,aa,⟨f0,f1,f2,f3⟩,ae⟩:=KB.out w2 ak.out;have af:=hid aa;obtain⟨r0,r1,r2,r3⟩:=aa;have aA:=hid ae;clear ae
  go_wp2_with fail
  refine(C3.out _ aA.out).mono ?_;intro e w3 h3;obtain⟨v3,rfl,au,av⟩:∃v,e=.returned (.tuple #[.agg #[.int .i64 rk,.string rx,.int .i64 rc,v],.int .i64 e3])/\Z8 Z7 w3 S rs v/\Below w2.heap.size w2 w3:=h3;obtain⟨A3,c3,rfl⟩:=au.form;have aI:=hid (ak.out.trans (av.mono ak.out.size));have aT:=hid au;have aW:=hid (Zx aA.out av);clear av au;clear m0 m1 m2 m3 o0 o1 o2 o3 o4 o5 o6 o7 r0 r1 r2 r3 f0 f1 f2 f3 af
  go_upto_region 6 with fail
  obtain⟨X,hX⟩:∃X,w3.alloc (Obj.cells #[.int .i64 rk,.string rx,.int .i64 rc,.slice A3 rs.length c3] 24)=X:=⟨_,rfl⟩;rw[hX];have ax:Below w3.heap.size w3 X:=by rw[<-hX];exact ZX _ _
  have aP:X.cell? ⟨w3.heap.size,3,none⟩=some (.slice A3 rs.length c3):=by rw[<-hX];exact ZU _ _ _ _ _ rfl
  have ay:=hid (aI.out.trans (ax.mono aI.out.size));have aY:Hid (Z8 Z7 X S rs (.slice A3 rs.length c3)):=aT.out.keep (fun q hq=>ax.cell (QV (aJ.out _ hq) aW.out.size)) (fun _ h=>h);clear hX ax;obtain⟨⟨m0,m1,m2,m3⟩,⟨o0,o1,o2,o3,o4,o5,o6,o7⟩,aa,⟨f0,f1,f2,f3⟩,ae⟩:=KB.out X ay.out;have af:=hid aa;obtain⟨r0,r1,r2,r3⟩:=aa;have aU:=hid ae;clear ae
  go_wp2_with fail
  generalize hZ:((((X.setCell _ (.int .i64 0)).setCell _ (.string ⟨#[]⟩)).setCell _ (.int .i64 0)).setCell _ (.slice none 0 0))=Z;obtain⟨⟨e0,e1,e2,aj⟩,aB,ai,aC,_,_⟩:=Xz (o:=0) af.out.1 af.out.2.1 af.out.2.2.1 af.out.2.2.2 _ _ _ _ hZ.symm;simp only[Nat.zero_add] at e1 e2 aj;have aH:=hid (ai w.heap.size w (by omega) aU.out);clear hZ aB ai aC;refine bodyPost_ret (v:=.tuple #[.agg #[.int .i64 0,.string ⟨#[]⟩,.int .i64 0,.slice none 0 0],.int .i64 e3]) (by simp[results,Tryz.results30,go_sem,e0,e1,e2,aj]) rfl ?_;rw[((HA.out.2 (by trivial)).2 (by trivial)).1 dF.out];exact⟨_,rfl,Z8.nil_ 0 (QU _) none,aH.out⟩
 subst bC;rcases Decidable.em (e4=0) with bB|bB
 case inr =>
  have dE:=hid bB;have i0:(e4 != 0)=true:=by simpa using bB
  go_enter Tryz.func30,Tryz.ntmps30
  go_wp2_with fail
  refine(C1.out _ aZ.out).mono ?_;rintro e w1 ⟨rfl,ah⟩;have ag:=hid ah;clear ah m0 m1 m2 m3 o0 o1 o2 o3 o4 o5 o6 o7;obtain⟨⟨m0,m1,m2,m3⟩,⟨o0,o1,o2,o3,o4,o5,o6,o7⟩,aa,⟨f0,f1,f2,f3⟩,ae⟩:=KB.out w1 ag.out;have af:=hid aa;obtain⟨r0,r1,r2,r3⟩:=aa;have aL:=hid ae;clear ae
  go_wp2_with fail
  refine(C2.out _ aL.out).mono ?_;rintro e w2 ⟨rfl,az⟩;have ak:=hid (ag.out.trans (az.mono ag.out.size));clear az;clear m0 m1 m2 m3 o0 o1 o2 o3 o4 o5 o6 o7 r0 r1 r2 r3 f0 f1 f2 f3 af;obtain⟨⟨m0,m1,m2,m3⟩,⟨o0,o1,o2,o3,o4,o5,o6,o7⟩,aa,⟨f0,f1,f2,f3⟩,ae⟩:=KB.out w2 ak.out;have af:=hid aa;obtain⟨r0,r1,r2,r3⟩:=aa;have aA:=hid ae;clear ae
  go_wp2_with fail
  refine(C3.out _ aA.out).mono ?_;intro e w3 h3;obtain⟨v3,rfl,au,av⟩:∃v,e=.returned (.tuple #[.agg #[.int .i64 rk,.string rx,.int .i64 rc,v],.int .i64 0])/\Z8 Z7 w3 S rs v/\Below w2.heap.size w2 w3:=h3;obtain⟨A3,c3,rfl⟩:=au.form;have aI:=hid (ak.out.trans (av.mono ak.out.size));have aT:=hid au;have aW:=hid (Zx aA.out av);clear av au;clear m0 m1 m2 m3 o0 o1 o2 o3 o4 o5 o6 o7 r0 r1 r2 r3 f0 f1 f2 f3 af
  go_upto_region 6 with fail
  obtain⟨X,hX⟩:∃X,w3.alloc (Obj.cells #[.int .i64 rk,.string rx,.int .i64 rc,.slice A3 rs.length c3] 24)=X:=⟨_,rfl⟩;rw[hX];have ax:Below w3.heap.size w3 X:=by rw[<-hX];exact ZX _ _
  have aP:X.cell? ⟨w3.heap.size,3,none⟩=some (.slice A3 rs.length c3):=by rw[<-hX];exact ZU _ _ _ _ _ rfl
  have ay:=hid (aI.out.trans (ax.mono aI.out.size));have aY:Hid (Z8 Z7 X S rs (.slice A3 rs.length c3)):=aT.out.keep (fun q hq=>ax.cell (QV (aJ.out _ hq) aW.out.size)) (fun _ h=>h);clear hX ax;obtain⟨⟨m0,m1,m2,m3⟩,⟨o0,o1,o2,o3,o4,o5,o6,o7⟩,aa,⟨f0,f1,f2,f3⟩,ae⟩:=KB.out X ay.out;have af:=hid aa;obtain⟨r0,r1,r2,r3⟩:=aa;have aU:=hid ae;clear ae
  go_wp2_with fail
  refine(C4.out _ _ _ aU.out (by trivial) aY.out).mono ?_;intro e w4 h4;obtain⟨v4,rfl,aD,aG⟩:∃v,e=.returned (.tuple #[v,.int .i64 e4])/\Z8 Z7 w4 (NS S X.heap.size w4) L v/\Below X.heap.size X w4:=h4;obtain⟨A4,c4,rfl⟩:=aD.form;have aO:=hid (ay.out.trans (aG.mono ay.out.size));have bH:=hid aD;have aX:=hid aG.size;clear aG aD aP;clear m0 m1 m2 m3 o0 o1 o2 o3 o4 o5 o6 o7 r0 r1 r2 r3 f0 f1 f2 f3 af;obtain⟨⟨m0,m1,m2,m3⟩,⟨o0,o1,o2,o3,o4,o5,o6,o7⟩,aa,⟨f0,f1,f2,f3⟩,ae⟩:=KB.out w4 aO.out;have af:=hid aa;obtain⟨r0,r1,r2,r3⟩:=aa;have aV:=hid ae;clear ae
  go_wp2_with fail
  generalize hZ:((((w4.setCell _ (.int .i64 0)).setCell _ (.string ⟨#[]⟩)).setCell _ (.int .i64 0)).setCell _ (.slice none 0 0))=Z;obtain⟨⟨e0,e1,e2,aj⟩,aB,ai,aC,_,_⟩:=Xz (o:=0) af.out.1 af.out.2.1 af.out.2.2.1 af.out.2.2.2 _ _ _ _ hZ.symm;simp only[Nat.zero_add] at e1 e2 aj;have aH:=hid (ai w.heap.size w (by omega) aV.out);clear hZ aB ai aC;refine bodyPost_ret (v:=.tuple #[.agg #[.int .i64 0,.string ⟨#[]⟩,.int .i64 0,.slice none 0 0],.int .i64 e4]) (by simp[results,Tryz.results30,go_sem,e0,e1,e2,aj]) rfl ?_;rw[(((HA.out.2 (by trivial)).2 (by trivial)).2 (by trivial)).1 dE.out];exact⟨_,rfl,Z8.nil_ 0 (QU _) none,aH.out⟩
 subst bB;cases bO
 ·go_enter Tryz.func30,Tryz.ntmps30
  go_wp2_with fail
  refine(C1.out _ aZ.out).mono ?_;rintro e w1 ⟨rfl,ah⟩;have ag:=hid ah;clear ah m0 m1 m2 m3 o0 o1 o2 o3 o4 o5 o6 o7;obtain⟨⟨m0,m1,m2,m3⟩,⟨o0,o1,o2,o3,o4,o5,o6,o7⟩,aa,⟨f0,f1,f2,f3⟩,ae⟩:=KB.out w1 ag.out;have af:=hid aa;obtain⟨r0,r1,r2,r3⟩:=aa;have aL:=hid ae;clear ae
  go_wp2_with fail
  refine(C2.out _ aL.out).mono ?_;rintro e w2 ⟨rfl,az⟩;have ak:=hid (ag.out.trans (az.mono ag.out.size));clear az;clear m0 m1 m2 m3 o0 o1 o2 o3 o4 o5 o6 o7 r0 r1 r2 r3 f0 f1 f2 f3 af;obtain⟨⟨m0,m1,m2,m3⟩,⟨o0,o1,o2,o3,o4,o5,o6,o7⟩,aa,⟨f0,f1,f2,f3⟩,ae⟩:=KB.out w2 ak.out;have af:=hid aa;obtain⟨r0,r1,r2,r3⟩:=aa;have aA:=hid ae;clear ae
  go_wp2_with fail
  refine(C3.out _ aA.out).mono ?_;intro e w3 h3;obtain⟨v3,rfl,au,av⟩:∃v,e=.returned (.tuple #[.agg #[.int .i64 rk,.string rx,.int .i64 rc,v],.int .i64 0])/\Z8 Z7 w3 S rs v/\Below w2.heap.size w2 w3:=h3;obtain⟨A3,c3,rfl⟩:=au.form;have aI:=hid (ak.out.trans (av.mono ak.out.size));have aT:=hid au;have aW:=hid (Zx aA.out av);clear av au;clear m0 m1 m2 m3 o0 o1 o2 o3 o4 o5 o6 o7 r0 r1 r2 r3 f0 f1 f2 f3 af
  go_upto_region 6 with fail
  obtain⟨X,hX⟩:∃X,w3.alloc (Obj.cells #[.int .i64 rk,.string rx,.int .i64 rc,.slice A3 rs.length c3] 24)=X:=⟨_,rfl⟩;rw[hX];have ax:Below w3.heap.size w3 X:=by rw[<-hX];exact ZX _ _
  have aP:X.cell? ⟨w3.heap.size,3,none⟩=some (.slice A3 rs.length c3):=by rw[<-hX];exact ZU _ _ _ _ _ rfl
  have ay:=hid (aI.out.trans (ax.mono aI.out.size));have aY:Hid (Z8 Z7 X S rs (.slice A3 rs.length c3)):=aT.out.keep (fun q hq=>ax.cell (QV (aJ.out _ hq) aW.out.size)) (fun _ h=>h);clear hX ax;obtain⟨⟨m0,m1,m2,m3⟩,⟨o0,o1,o2,o3,o4,o5,o6,o7⟩,aa,⟨f0,f1,f2,f3⟩,ae⟩:=KB.out X ay.out;have af:=hid aa;obtain⟨r0,r1,r2,r3⟩:=aa;have aU:=hid ae;clear ae
  go_wp2_with fail
  refine(C4.out _ _ _ aU.out (by trivial) aY.out).mono ?_;intro e w4 h4;obtain⟨v4,rfl,aD,aG⟩:∃v,e=.returned (.tuple #[v,.int .i64 0])/\Z8 Z7 w4 (NS S X.heap.size w4) L v/\Below X.heap.size X w4:=h4;obtain⟨A4,c4,rfl⟩:=aD.form;have aO:=hid (ay.out.trans (aG.mono ay.out.size));have bH:=hid aD;have aX:=hid aG.size;clear aG aD aP;clear m0 m1 m2 m3 o0 o1 o2 o3 o4 o5 o6 o7 r0 r1 r2 r3 f0 f1 f2 f3 af;obtain⟨⟨m0,m1,m2,m3⟩,⟨o0,o1,o2,o3,o4,o5,o6,o7⟩,aa,⟨f0,f1,f2,f3⟩,ae⟩:=KB.out w4 aO.out;have af:=hid aa;obtain⟨r0,r1,r2,r3⟩:=aa;have aV:=hid ae;clear ae
  go_wp2_with fail
  refine(C5.out _ X.heap.size _ _ aV.out (by trivial) (by trivial) (bI.out (by trivial)).1 bH.out).mono ?_;intro e w5 h5;obtain⟨v5,rfl,aQ,aM⟩:∃v,e=.returned (.agg #[.int .i64 ok,.string ox,.int .i64 oc,v])/\Z8 Z7 w5 (NS S X.heap.size w5) os v/\Below w4.heap.size w4 w5:=XO.ns2 h5 aX.out;obtain⟨A5,c5,rfl⟩:=aQ.form;have bz:=hid (aO.out.trans (aM.mono aO.out.size));have bP:=hid aQ;have bM:=hid (QP aX.out aM.size);have aK:=hid (Zx aV.out aM);clear aM aQ;clear m0 m1 m2 m3 o0 o1 o2 o3 o4 o5 o6 o7 r0 r1 r2 r3 f0 f1 f2 f3 af
  go_upto_region 12 with fail
  obtain⟨Y,hY⟩:∃Y,w5.alloc (Obj.cells #[.int .i64 ok,.string ox,.int .i64 oc,.slice A5 os.length c5] 24)=Y:=⟨_,rfl⟩;rw[hY];have aN:Below w5.heap.size w5 Y:=by rw[<-hY];exact ZX _ _
  have bu:Hid (ZL Y w5.heap.size ok ox oc (.slice A5 os.length c5)):=by show ZL _ _ _ _ _ _;rw[<-hY];exact ZL.new _ _ _ _ _ _
  have bn:Hid (w5.heap.size<Y.heap.size):=by show _<_;rw[<-hY];simp
  have aS:=hid (bz.out.trans (aN.mono bz.out.size));have bA:Hid (Z8 Z7 Y (NS S X.heap.size Y) os (.slice A5 os.length c5)):=NS.keep bP.out (fun q hq=>QV (aJ.out _ hq) aK.out.size) aN;have bQ:Hid (Z8 Z7 Y (Lt Y.heap.size) os (.slice A5 os.length c5)):=SY bA.out aJ.out (QP aK.out.size aN.size);obtain⟨n0,n1,n2,n3⟩:=bu.out;clear hY aN;obtain⟨⟨m0,m1,m2,m3⟩,⟨o0,o1,o2,o3,o4,o5,o6,o7⟩,aa,⟨f0,f1,f2,f3⟩,ae⟩:=KB.out Y aS.out;have af:=hid aa;obtain⟨r0,r1,r2,r3⟩:=aa;have bR:=hid ae;clear ae
  go_wp2_with fail
  refine(C6.out _ _ _ bQ.out (bI.out (by trivial)).2).mono ?_;rintro e w6 ⟨rfl,aF⟩;have bN:=hid (aS.out.trans (aF.mono aS.out.size));obtain⟨n0,n1,n2,n3⟩:=bu.out.below aF bn.out;have cO:=hid (NS.keep bA.out (fun q hq=>QV (aJ.out _ hq) bR.out.size) aF);have cK:Hid (X.heap.size<=w6.heap.size/\w.heap.size+1+1+1<=X.heap.size):=⟨by have:=bM.out;have:=bn.out;have:=aF.size;omega,by have:=ay.out.size;have:=cB.out;omega⟩;clear aF;clear m0 m1 m2 m3 o0 o1 o2 o3 o4 o5 o6 o7 r0 r1 r2 r3 f0 f1 f2 f3 af;obtain⟨⟨m0,m1,m2,m3⟩,⟨o0,o1,o2,o3,o4,o5,o6,o7⟩,aa,⟨f0,f1,f2,f3⟩,ae⟩:=KB.out w6 bN.out;have af:=hid aa;obtain⟨r0,r1,r2,r3⟩:=aa;have bU:=hid ae;clear ae
  go_wp2_with fail
  generalize hZ:((((w6.setCell _ (.int .i64 0)).setCell _ (.string ⟨#[]⟩)).setCell _ (.int .i64 0)).setCell _ (.slice none 0 0))=Z;obtain⟨⟨e0,e1,e2,aj⟩,aB,ai,aC,_,_⟩:=Xz (o:=0) af.out.1 af.out.2.1 af.out.2.2.1 af.out.2.2.2 _ _ _ _ hZ.symm;simp only[Nat.zero_add] at e1 e2 aj;have aH:=hid (ai w.heap.size w (by omega) bU.out);clear hZ aB ai aC;refine bodyPost_ret (v:=.tuple #[.agg #[.int .i64 0,.string ⟨#[]⟩,.int .i64 0,.slice none 0 0],.int .i64 6]) (by simp[results,Tryz.results30,go_sem,e0,e1,e2,aj]) rfl ?_;rw[((((HA.out.2 (by trivial)).2 (by trivial)).2 (by trivial)).2 (by trivial)).1 (by trivial)];exact⟨_,rfl,Z8.nil_ 0 (QU _) none,aH.out⟩
 go_enter Tryz.func30,Tryz.ntmps30
 go_wp2_with fail
 refine(C1.out _ aZ.out).mono ?_;rintro e w1 ⟨rfl,ah⟩;have ag:=hid ah;clear ah m0 m1 m2 m3 o0 o1 o2 o3 o4 o5 o6 o7;obtain⟨⟨m0,m1,m2,m3⟩,⟨o0,o1,o2,o3,o4,o5,o6,o7⟩,aa,⟨f0,f1,f2,f3⟩,ae⟩:=KB.out w1 ag.out;have af:=hid aa;obtain⟨r0,r1,r2,r3⟩:=aa;have aL:=hid ae;clear ae
 go_wp2_with fail
 refine(C2.out _ aL.out).mono ?_;rintro e w2 ⟨rfl,az⟩;have ak:=hid (ag.out.trans (az.mono ag.out.size));clear az;clear m0 m1 m2 m3 o0 o1 o2 o3 o4 o5 o6 o7 r0 r1 r2 r3 f0 f1 f2 f3 af;obtain⟨⟨m0,m1,m2,m3⟩,⟨o0,o1,o2,o3,o4,o5,o6,o7⟩,aa,⟨f0,f1,f2,f3⟩,ae⟩:=KB.out w2 ak.out;have af:=hid aa;obtain⟨r0,r1,r2,r3⟩:=aa;have aA:=hid ae;clear ae
 go_wp2_with fail
 refine(C3.out _ aA.out).mono ?_;intro e w3 h3;obtain⟨v3,rfl,au,av⟩:∃v,e=.returned (.tuple #[.agg #[.int .i64 rk,.string rx,.int .i64 rc,v],.int .i64 0])/\Z8 Z7 w3 S rs v/\Below w2.heap.size w2 w3:=h3;obtain⟨A3,c3,rfl⟩:=au.form;have aI:=hid (ak.out.trans (av.mono ak.out.size));have aT:=hid au;have aW:=hid (Zx aA.out av);clear av au;clear m0 m1 m2 m3 o0 o1 o2 o3 o4 o5 o6 o7 r0 r1 r2 r3 f0 f1 f2 f3 af
 go_upto_region 6 with fail
 obtain⟨X,hX⟩:∃X,w3.alloc (Obj.cells #[.int .i64 rk,.string rx,.int .i64 rc,.slice A3 rs.length c3] 24)=X:=⟨_,rfl⟩;rw[hX];have ax:Below w3.heap.size w3 X:=by rw[<-hX];exact ZX _ _
 have aP:X.cell? ⟨w3.heap.size,3,none⟩=some (.slice A3 rs.length c3):=by rw[<-hX];exact ZU _ _ _ _ _ rfl
 have ay:=hid (aI.out.trans (ax.mono aI.out.size));have aY:Hid (Z8 Z7 X S rs (.slice A3 rs.length c3)):=aT.out.keep (fun q hq=>ax.cell (QV (aJ.out _ hq) aW.out.size)) (fun _ h=>h);clear hX ax;obtain⟨⟨m0,m1,m2,m3⟩,⟨o0,o1,o2,o3,o4,o5,o6,o7⟩,aa,⟨f0,f1,f2,f3⟩,ae⟩:=KB.out X ay.out;have af:=hid aa;obtain⟨r0,r1,r2,r3⟩:=aa;have aU:=hid ae;clear ae
 go_wp2_with fail
 refine(C4.out _ _ _ aU.out (by trivial) aY.out).mono ?_;intro e w4 h4;obtain⟨v4,rfl,aD,aG⟩:∃v,e=.returned (.tuple #[v,.int .i64 0])/\Z8 Z7 w4 (NS S X.heap.size w4) L v/\Below X.heap.size X w4:=h4;obtain⟨A4,c4,rfl⟩:=aD.form;have aO:=hid (ay.out.trans (aG.mono ay.out.size));have bH:=hid aD;have aX:=hid aG.size;clear aG aD aP;clear m0 m1 m2 m3 o0 o1 o2 o3 o4 o5 o6 o7 r0 r1 r2 r3 f0 f1 f2 f3 af;obtain⟨⟨m0,m1,m2,m3⟩,⟨o0,o1,o2,o3,o4,o5,o6,o7⟩,aa,⟨f0,f1,f2,f3⟩,ae⟩:=KB.out w4 aO.out;have af:=hid aa;obtain⟨r0,r1,r2,r3⟩:=aa;have aV:=hid ae;clear ae
 go_wp2_with fail
 refine(C5.out _ X.heap.size _ _ aV.out (by trivial) (by trivial) (bI.out (by trivial)).1 bH.out).mono ?_;intro e w5 h5;obtain⟨v5,rfl,aQ,aM⟩:∃v,e=.returned (.agg #[.int .i64 ok,.string ox,.int .i64 oc,v])/\Z8 Z7 w5 (NS S X.heap.size w5) os v/\Below w4.heap.size w4 w5:=XO.ns2 h5 aX.out;obtain⟨A5,c5,rfl⟩:=aQ.form;have bz:=hid (aO.out.trans (aM.mono aO.out.size));have bP:=hid aQ;have bM:=hid (QP aX.out aM.size);have aK:=hid (Zx aV.out aM);clear aM aQ;clear m0 m1 m2 m3 o0 o1 o2 o3 o4 o5 o6 o7 r0 r1 r2 r3 f0 f1 f2 f3 af
 go_upto_region 12 with fail
 obtain⟨Y,hY⟩:∃Y,w5.alloc (Obj.cells #[.int .i64 ok,.string ox,.int .i64 oc,.slice A5 os.length c5] 24)=Y:=⟨_,rfl⟩;rw[hY];have aN:Below w5.heap.size w5 Y:=by rw[<-hY];exact ZX _ _
 have bu:Hid (ZL Y w5.heap.size ok ox oc (.slice A5 os.length c5)):=by show ZL _ _ _ _ _ _;rw[<-hY];exact ZL.new _ _ _ _ _ _
 have bn:Hid (w5.heap.size<Y.heap.size):=by show _<_;rw[<-hY];simp
 have aS:=hid (bz.out.trans (aN.mono bz.out.size));have bA:Hid (Z8 Z7 Y (NS S X.heap.size Y) os (.slice A5 os.length c5)):=NS.keep bP.out (fun q hq=>QV (aJ.out _ hq) aK.out.size) aN;have bQ:Hid (Z8 Z7 Y (Lt Y.heap.size) os (.slice A5 os.length c5)):=SY bA.out aJ.out (QP aK.out.size aN.size);obtain⟨n0,n1,n2,n3⟩:=bu.out;clear hY aN;obtain⟨⟨m0,m1,m2,m3⟩,⟨o0,o1,o2,o3,o4,o5,o6,o7⟩,aa,⟨f0,f1,f2,f3⟩,ae⟩:=KB.out Y aS.out;have af:=hid aa;obtain⟨r0,r1,r2,r3⟩:=aa;have bR:=hid ae;clear ae
 go_wp2_with fail
 refine(C6.out _ _ _ bQ.out (bI.out (by trivial)).2).mono ?_;rintro e w6 ⟨rfl,aF⟩;have bN:=hid (aS.out.trans (aF.mono aS.out.size));obtain⟨n0,n1,n2,n3⟩:=bu.out.below aF bn.out;have cO:=hid (NS.keep bA.out (fun q hq=>QV (aJ.out _ hq) bR.out.size) aF);have cK:Hid (X.heap.size<=w6.heap.size/\w.heap.size+1+1+1<=X.heap.size):=⟨by have:=bM.out;have:=bn.out;have:=aF.size;omega,by have:=ay.out.size;have:=cB.out;omega⟩;clear aF;clear m0 m1 m2 m3 o0 o1 o2 o3 o4 o5 o6 o7 r0 r1 r2 r3 f0 f1 f2 f3 af;obtain⟨⟨m0,m1,m2,m3⟩,⟨o0,o1,o2,o3,o4,o5,o6,o7⟩,aa,⟨f0,f1,f2,f3⟩,ae⟩:=KB.out w6 bN.out;have af:=hid aa;obtain⟨r0,r1,r2,r3⟩:=aa;have bU:=hid ae;clear ae
 go_wp2_with fail
 generalize hZ:((((w6.setCell _ (.int .i64 ok)).setCell _ (.string ox)).setCell _ (.int .i64 oc)).setCell _ (.slice A5 os.length c5))=Z;obtain⟨⟨e0,e1,e2,aj⟩,aB,ai,aC,_,_⟩:=Xz (o:=0) af.out.1 af.out.2.1 af.out.2.2.1 af.out.2.2.2 _ _ _ _ hZ.symm;simp only[Nat.zero_add] at e1 e2 aj;have aH:=hid (ai w.heap.size w (by omega) bU.out);have dC:=hid aC;have dB:=hid aB;clear hZ aB ai aC;refine bodyPost_ret (v:=.tuple #[.agg #[.int .i64 ok,.string ox,.int .i64 oc,.slice A5 os.length c5],.int .i64 0]) (by simp[results,Tryz.results30,go_sem,e0,e1,e2,aj]) rfl ?_;rw[((((HA.out.2 (by trivial)).2 (by trivial)).2 (by trivial)).2 (by trivial)).2 (by trivial)];have hx6:=cK.out;have hzs:=dB.out;refine⟨_,rfl,cO.out.keep (fun q hq=>dC.out q ?_) (fun q hq=>?_),aH.out⟩
 ·rcases hq with hq|hq
  ·have:=aJ.out _ hq;omega
  omega
 rcases hq with hq|hq
 ·exact .inl hq
 exact .inr ⟨by omega,by omega⟩
