/- T -/
import Derived.Test.YthpngeboknmllaaGreatQcec9
import Derived.Test.YthpngeboknmllaaGreatQ5018
import Derived.Test.YthpngeboknmllaaGreatQ4f02
import Derived.Test.YthpngeboknmllaaGreatQ7bfe
import Derived.Test.YthpngeboknmllaaGreatQe576
import Derived.Test.YthpngeboknmllaaGreatQa225
import Derived.Test.YthpngeboknmllaaGreatQ9baf
import Derived.Test.YthpngeboknmllaaGreatQ0543
set_option linter.unusedVariables false
set_option linter.unusedSimpArgs false
set_option maxHeartbeats 16000000
set_option maxRecDepth 100000
namespace Go.Proofs.YthpngeboknmllaaGreat
open Go.RowKit
def Vu (t:Z9) (p m:List Int) (k s:Int) (items:List Z9) (x:ByteArray) (f:Bool):Ze×Int :=
 if k=0 then TK t p m items else if k=1 then WB t p m f else if k=2 then TN t p m (items.headD ZN) s else if k=3 then TL t p m else if k=4 then VZ t p m else if k=5 then X7 t p m x else if k=6 then VM t p m f else (ZB,1)
theorem Tw (t:Z9) (p m:List Int) (k s:Int) (items:List Z9) (x:ByteArray) (f:Bool):V9 t p m (Vu t p m k s items x f):=by
 unfold Vu;split
 ·exact zUk t p m items
 split
 ·exact zU6 t p m f
 split
 ·exact Vj t p m _ s
 split
 ·exact zUj t p m
 split
 ·exact zU5 t p m
 split
 ·exact Tx t p m x
 split
 ·exact Vi t p m f
 exact Xr (by decide)
theorem Vt (t:Z9) (p m:List Int) (k s:Int) (items:List Z9) (x:ByteArray) (f:Bool) (A Ap Am An:Option Addr) (cap cp cm cn:Nat) (w:World) (h0:k≠0) (h1:k≠1) (h2:k≠2) (h3:k≠3) (h4:k≠4) (h5:k≠5) (h6:k≠6) :
  Calls Tryz.prog 8 #[.agg #[.int .i64 t.kind,.string t.text,.int .i64 t.cols,.slice A t.kids.length cap],.agg #[.slice Ap p.length cp,.slice Am m.length cm],.agg #[.int .i64 k,.slice An items.length cn,.int .i64 s,.string x,.bool f]] w (Zh w (ZB,1)):=by
 obtain⟨W0,aa⟩:∃W0,(((w.alloc (.cells #[.int .i64 t.kind,.string t.text,.int .i64 t.cols,.slice A t.kids.length cap] 24)).alloc (.cells #[.slice Ap p.length cp,.slice Am m.length cm] 27)).alloc (.cells #[.int .i64 k,.slice An items.length cn,.int .i64 s,.string x,.bool f] 30)).alloc (.cells #[.slice none 0 0,.slice none 0 0,.slice none 0 0,.slice none 0 0,.slice none 0 0] 35)=W0:=⟨_,rfl⟩;have af:Hid (Below w.heap.size w W0):=by show Below _ _ _;rw[<-aa];exact Zy (Zy (Zy (ZW _ _) _) _) _
 have ae:Z5 W0 (w.heap.size+1+1) (.cells #[.int .i64 k,.slice An items.length cn,.int .i64 s,.string x,.bool f] 30):=by rw[<-aa];exact(Z5.at2 _ _ _ _).al _
 have HG:Hid (Z5 W0 (w.heap.size+1+1+1) (.cells #[.slice none 0 0,.slice none 0 0,.slice none 0 0,.slice none 0 0,.slice none 0 0] 35)):=by show Z5 _ _ _;rw[<-aa];exact Z5.new _ _ _ (by simp)
 have c0:W0.cell? ⟨w.heap.size+1+1,0,none⟩=some (.int .i64 k):=ae.cell 0;have i0:(k==0)=false:=by simpa using h0
 have i1:(k==1)=false:=by simpa using h1
 have i2:(k==2)=false:=by simpa using h2
 have i3:(k==3)=false:=by simpa using h3
 have i4:(k==4)=false:=by simpa using h4
 have i5:(k==5)=false:=by simpa using h5
 have i6:(k==6)=false:=by simpa using h6
 clear ae h0 h1 h2 h3 h4 h5 h6;go_enter Tryz.func8,Tryz.ntmps8
 go_wp2_with (first
  |(refine wpList_store_row rfl 35 (.tmp 6) (.tmp 72) rfl (w.heap.size+1+1+1) _ rfl rfl 35 _ HG.out (by kernel_rfl) (by simp) (by simp[Value.oneCell']) ?_)
  |fail)
 refine bodyPost_ret (v:=.tuple #[.agg #[.slice none 0 0,.slice none 0 0,.slice none 0 0,.slice none 0 0,.slice none 0 0],.int .i64 1]) (Y1 Tryz.results8 _ _ _ (w.heap.size+1+1+1) 35 _ (0,0) _ rfl (HG.out.row _) rfl Tryz.underlying35 (by kernel_rfl) _ rfl) rfl ?_;exact zJ8 1 (Y6 af.out (by omega) _)
theorem Vs (t:Z9) (p m:List Int) (k s:Int) (items:List Z9) (x:ByteArray) (f:Bool) (A Ap Am An:Option Addr) (cap cp cm cn:Nat) (w:World) (hv:Z8 Z6 w (Lt w.heap.size) t.kids (.slice A t.kids.length cap)) (ae:Zk t) (ag:ZR t<=900000) (hp:Z0 w (Lt w.heap.size) p (.slice Ap p.length cp)) (hm:Z0 w (Lt w.heap.size) m (.slice Am m.length cm)) (aa:p.length<=90000) (af:m.length<=90000) (hi:Z8 Z6 w (Lt w.heap.size) items (.slice An items.length cn)) (aj:ZQ items<=900000) (ah:items.length<=900000) (hx:x.size<=maxLen) (hs:Z4 s) :
  Calls Tryz.prog 8 #[.agg #[.int .i64 t.kind,.string t.text,.int .i64 t.cols,.slice A t.kids.length cap],.agg #[.slice Ap p.length cp,.slice Am m.length cm],.agg #[.int .i64 k,.slice An items.length cn,.int .i64 s,.string x,.bool f]] w (Zh w (Vu t p m k s items x f)):=by
 unfold Vu;by_cases h0:k=0
 ·subst h0;refine Vl t p m s items x f A Ap Am An cap cp cm cn w _ (fun W hW=>?_);exact(zTz t p m items A Ap Am An cap cp cm cn W (hv.below hW hW.size) ae ag (hp.below hW hW.size) (hm.below hW hW.size) aa af (hi.below hW hW.size) aj ah).mono fun _ _ h=>h.weak
 rw[if_neg h0];by_cases h1:k=1
 ·subst h1;refine Vm t p m s items x f A Ap Am An cap cp cm cn w _ (fun W hW=>?_);exact(zJx t p m A Ap Am cap cp cm f W (hv.below hW hW.size) ae ag (hp.below hW hW.size) (hm.below hW hW.size) aa af).mono fun _ _ h=>h.weak
 rw[if_neg h1];by_cases h2:k=2
 ·subst h2;refine Vn t p m s items x f A Ap Am An cap cp cm cn w _ hi (fun W B b hW hB=>?_);exact(zVk t p m (items.headD ZN) s A Ap Am B cap cp cm b W (hv.below hW hW.size) ae ag (hp.below hW hW.size) (hm.below hW hW.size) aa af hB (SY hi) hs).mono fun _ _ h=>h.weak
 rw[if_neg h2];by_cases h3:k=3
 ·subst h3;refine Vo t p m s items x f A Ap Am An cap cp cm cn w _ (fun W hW=>?_);exact(zTy t p m A Ap Am cap cp cm W (hv.below hW hW.size) ae ag (hp.below hW hW.size) (hm.below hW hW.size) aa af).mono fun _ _ h=>h.weak
 rw[if_neg h3];by_cases h4:k=4
 ·subst h4;refine Vp t p m s items x f A Ap Am An cap cp cm cn w _ (fun W hW=>?_);exact(zU0 t p m A Ap Am cap cp cm W (hv.below hW hW.size) ae ag (hp.below hW hW.size) (hm.below hW hW.size) aa af).mono fun _ _ h=>h.weak
 rw[if_neg h4];by_cases h5:k=5
 ·subst h5;refine Vq t p m s items x f A Ap Am An cap cp cm cn w _ (fun W hW=>?_);exact(Uq t p m x A Ap Am cap cp cm W (hv.below hW hW.size) ae ag (hp.below hW hW.size) (hm.below hW hW.size) aa af hx).mono fun _ _ h=>h.weak
 rw[if_neg h5];by_cases h6:k=6
 ·subst h6;refine Vr t p m s items x f A Ap Am An cap cp cm cn w _ (fun W hW=>?_);exact(zVl t p m f A Ap Am cap cp cm W (hv.below hW hW.size) ae ag (hp.below hW hW.size) (hm.below hW hW.size) aa af).mono fun _ _ h=>h.weak
 rw[if_neg h6];exact Vt t p m k s items x f A Ap Am An cap cp cm cn w h0 h1 h2 h3 h4 h5 h6
theorem VG {t:Z9} (h:ZU t=true):Zk t:=by
 have h1:=Rf (p:=[]) h rfl;have h2:(ZP t []).1=t:=rfl;rw[h2] at h1;rw[h1];exact⟨by simp[Z4,Z7,Z9.kind],by simp[Z4,Z7,Z9.cols],Qj _⟩
theorem zTe (t:Z9) (p m:List Int) (k s:Int) (items:List Z9) (x:ByteArray) (f:Bool) (A Ap Am An:Option Addr) (cap cp cm cn:Nat) (w:World) (hv:QW w (Lt w.heap.size) t.kids (.slice A t.kids.length cap)) (bI:Zk t) (hp:Z0 w (Lt w.heap.size) p (.slice Ap p.length cp)) (hm:Z0 w (Lt w.heap.size) m (.slice Am m.length cm)) (hi:Z8 Z6 w (Lt w.heap.size) items (.slice An items.length cn)) (hs:Z4 s) (hx:x.size<=maxLen) :
  Calls Tryz.prog 4 #[.agg #[.int .i64 t.kind,.string t.text,.int .i64 t.cols,.slice A t.kids.length cap],.agg #[.slice Ap p.length cp,.slice Am m.length cm],.agg #[.int .i64 k,.slice An items.length cn,.int .i64 s,.string x,.bool f]] w fun e w'=>e=.returned (.bool true)/\Below w.heap.size w w':=by
 obtain⟨W0,bg⟩:∃W0,((w.alloc (.cells #[.int .i64 t.kind,.string t.text,.int .i64 t.cols,.slice A t.kids.length cap] 24)).alloc (.cells #[.slice Ap p.length cp,.slice Am m.length cm] 27)).alloc (.cells #[.int .i64 k,.slice An items.length cn,.int .i64 s,.string x,.bool f] 30)=W0:=⟨_,rfl⟩;have bM:Below w.heap.size w W0:=by rw[<-bg];exact Zy (Zy (ZW _ _) _) _
 have cu:Z5 W0 w.heap.size (.cells #[.int .i64 t.kind,.string t.text,.int .i64 t.cols,.slice A t.kids.length cap] 24):=by rw[<-bg];exact((Z5.at0 _ _).al _).al _
 have bZ:Z5 W0 (w.heap.size+1) (.cells #[.slice Ap p.length cp,.slice Am m.length cm] 27):=by rw[<-bg];exact(Z5.at1 _ _ _).al _
 have bY:Z5 W0 (w.heap.size+1+1) (.cells #[.int .i64 k,.slice An items.length cn,.int .i64 s,.string x,.bool f] 30):=by rw[<-bg];exact Z5.at2 _ _ _ _
 have KB:Hid (∀W,Below W0.heap.size W0 W->(W.cell? ⟨w.heap.size,0,none⟩=some (.int .i64 t.kind)/\W.cell? ⟨w.heap.size,1,none⟩=some (.string t.text)/\W.cell? ⟨w.heap.size,2,none⟩=some (.int .i64 t.cols)/\W.cell? ⟨w.heap.size,3,none⟩=some (.slice A t.kids.length cap)/\W.cell? ⟨w.heap.size+1,0,none⟩=some (.slice Ap p.length cp)/\W.cell? ⟨w.heap.size+1,1,none⟩=some (.slice Am m.length cm)/\W.cell? ⟨w.heap.size+1+1,0,none⟩=some (.int .i64 k)/\W.cell? ⟨w.heap.size+1+1,1,none⟩=some (.slice An items.length cn)/\W.cell? ⟨w.heap.size+1+1,2,none⟩=some (.int .i64 s)/\W.cell? ⟨w.heap.size+1+1,3,none⟩=some (.string x)/\W.cell? ⟨w.heap.size+1+1,4,none⟩=some (.bool f))/\Below w.heap.size w W):=fun W hW=>by
  have h1:=cu.below hW;have h2:=bZ.below hW;have h3:=bY.below hW;exact⟨⟨h1.cell 0,h1.cell 1,h1.cell 2,h1.cell 3,h2.cell 0,h2.cell 1,h3.cell 0,h3.cell 1,h3.cell 2,h3.cell 3,h3.cell 4⟩,bM.trans (hW.mono bM.size)⟩
 have CF:Hid (∀W,Below w.heap.size w W->Calls Tryz.prog 7 #[.agg #[.int .i64 t.kind,.string t.text,.int .i64 t.cols,.slice A t.kids.length cap],.agg #[.slice Ap p.length cp,.slice Am m.length cm],.agg #[.int .i64 k,.slice An items.length cn,.int .i64 s,.string x,.bool f]] W fun e w'=>e=.returned (.bool (Qv t p m items x))/\Below W.heap.size W w'):=fun W hW=>zQj t p m k s items x f A Ap Am An cap cp cm cn W (hv.below hW hW.size) (hi.below hW hW.size) hx
 obtain⟨bf,aN⟩:∃bf,Qv t p m items x=bf:=⟨_,rfl⟩;rw[aN] at CF;obtain⟨aB,aJ⟩:∃aB,Vu t p m k s items x f=aB:=⟨_,rfl⟩;have di:Hid (V9 t p m aB):=by show V9 _ _ _ _;rw[<-aJ];exact Tw t p m k s items x f
 have CR:Hid (bf=true->∀W,Below w.heap.size w W->Calls Tryz.prog 8 #[.agg #[.int .i64 t.kind,.string t.text,.int .i64 t.cols,.slice A t.kids.length cap],.agg #[.slice Ap p.length cp,.slice Am m.length cm],.agg #[.int .i64 k,.slice An items.length cn,.int .i64 s,.string x,.bool f]] W (Zh W aB)):=fun hb W hW=>by
  rw[hb] at aN;obtain⟨h1,h2,h3,h4,h5⟩:=zN6 aN;have h6:=Xw (Z7 items);have h7:(Z7 items).kids=items:=rfl;rw[h7] at h6;have h8:=Wz items;rw[<-aJ];exact Vs t p m k s items x f A Ap Am An cap cp cm cn W (hv.below hW hW.size) bI (by omega) (hp.below hW hW.size) (hm.below hW hW.size) (by omega) (by omega) (hi.below hW hW.size) (by omega) (by omega) hx hs
 have dw:Hid (bf=true->ZR t<=300):=fun hb=>by rw[hb] at aN;exact(zN6 aN).1
 have bq:=hid (Qh hv (Qh bI (Qh hp hm)));clear hv bI hp hm hi hs hx bM cu bZ bY aN aJ;go_enter Tryz.func4,Tryz.ntmps4
 go_wp2_with fail
 refine(zIr _).mono ?_;rintro e w1 ⟨rfl,bL⟩;obtain⟨⟨m0,m1,m2,m3,n0,n1,c0,c1,c2,c3,c4⟩,az⟩:=KB.out w1 bL;have HK:=hid az;have HT:=hid bL;clear bL az bg
 go_wp2_with fail
 refine(CF.out _ HK.out).mono ?_;rintro e w2 ⟨rfl,cZ⟩;have HT:=hid (Zo HT.out cZ);clear cZ m0 m1 m2 m3 n0 n1 c0 c1 c2 c3 c4;obtain⟨⟨m0,m1,m2,m3,n0,n1,c0,c1,c2,c3,c4⟩,az⟩:=KB.out w2 HT.out;have HK:=hid az;clear az;cases bf
 case false =>
  clear m0 m1 m2 m3 n0 n1 c0 c1 c2 c3 c4 CR
  go_wp2_with fail
  refine(zIr _).mono ?_;rintro e w3 ⟨rfl,aZ⟩;have HK:=hid (Zo HK.out aZ);clear aZ
  go_wp2_with fail
  go_ret;exact⟨rfl,HK.out⟩
 case true =>
  have dE:=hid (dw.out rfl)
  go_wp2_with fail
  refine(CR.out (by trivial) _ HK.out).mono ?_;rintro e w3 ⟨aG,aC,aU,aO,aV,aP,bD,bB,bG,bC,rfl,r0,r1,r2,r3,r4,aZ⟩;have HT:=hid (Zo HT.out aZ);clear m0 m1 m2 m3 n0 n1 c0 c1 c2 c3 c4 aZ CR CF dw HK
  go_upto_region 4 with fail
  generalize hX:World.alloc w3 _=X;have aA:Below w3.heap.size w3 X:=by rw[<-hX];exact ZW _ _
  have hs:Z5 X w3.heap.size (.cells #[.slice aG aB.1.ops.length aC,.slice aU aB.1.bp.length aO,.slice aV aB.1.bm.length aP,.slice bD aB.1.ap.length bB,.slice bG aB.1.am.length bC] 35):=by rw[<-hX];exact Z5.at0 _ _
  have ax:=hid (Zh.bl (w0:=w) r0 r1 r2 r3 r4 aA);have HT:=hid (Zo HT.out aA);obtain⟨g7,cB⟩:∃g7,w3.heap.size=g7:=⟨_,rfl⟩;simp only[cB] at hs ⊢;clear hX aA r0 r1 r2 r3 r4 cB;obtain⟨bz,bu⟩:=di.out;obtain⟨⟨ops,bp,bm,ap,am⟩,er⟩:=aB;simp only at bz bu ax hs ⊢;clear di;by_cases he:er=0;rotate_left
  ·have hz:=bz he;have hne:(er != 0)=true:=by simp[he]
   unfold ZB at hz;injection hz with z0 z1 z2 z3 z4
   subst z0 z1 z2 z3 z4;simp only[List.length_nil] at hs;have e0:=hs.cell 0;have e1:=hs.cell 1;have e2:=hs.cell 2;have e3:=hs.cell 3;have e4:=hs.cell 4;simp only[List.getElem?_toArray,List.getElem?_cons_zero,List.getElem?_cons_succ] at e0 e1 e2 e3 e4;have HS:Hid (Calls Tryz.prog 9 #[.agg #[.slice aG 0 aC,.slice aU 0 aO,.slice aV 0 aP,.slice bD 0 bB,.slice bG 0 bC],.agg #[.slice none 0 0,.slice none 0 0,.slice none 0 0,.slice none 0 0,.slice none 0 0]] X fun e w'=>e=.returned (.bool true)/\Below X.heap.size X w'):=by
    obtain⟨r0,r1,r2,r3,r4⟩:=ax.out;exact zOk ZB aG aU aV bD bG aC aO aP bB bC none none none none none 0 0 0 0 0 X r0 r1 r2 r3 r4 (Z8.nil_ 0 (Qj _) none) (Z8.nil_ 0 (Qj _) none) (Z8.nil_ 0 (Qj _) none) (Z8.nil_ 0 (Qj _) none) (Z8.nil_ 0 (Qj _) none)
   have HK:=hid (KB.out X HT.out).2;clear hs bz bu he ax
   go_wp2_with fail
   refine HS.out.mono ?_;rintro e w4 ⟨rfl,aI⟩;have HK:=hid (Zo HK.out aI);clear aI e0 e1 e2 e3 e4
   go_wp2_with fail
   go_ret;exact⟨rfl,HK.out⟩
  subst he;obtain⟨M,bN,aW,aM,aL,dz,dA,bW⟩:=bu rfl;subst dz dA;have aS:=hid hs;have bn:=hid bW;have aF:=hid (Sc bN aW);have aK:=hid (Qh aW (Qh (VG aW) (Yb aW).1));have dD:=hid (Qh aM aL);have CA:Hid (∀W,Below X.heap.size X W->Calls Tryz.prog 10 #[.agg #[.int .i64 t.kind,.string t.text,.int .i64 t.cols,.slice A t.kids.length cap],.slice aG ops.length aC] W (zIx W (M,0))):=fun W hW=>by
   have hw:=(KB.out X HT.out).2.trans (hW.mono (KB.out X HT.out).2.size);rw[<-bN];exact zMf t ops A aG cap aC W (bq.out.1.below hw hw.size) bq.out.2.1 (by have:=dE.out;omega) (ax.out.1.below hW hW.size) bn.out.1 bn.out.2
  obtain⟨⟨m0,m1,m2,m3,n0,n1,c0,c1,c2,c3,c4⟩,az⟩:=KB.out X HT.out;have HK:=hid az;have e0:X.cell? ⟨g7,0,none⟩=some (.slice aG ops.length aC):=hs.cell 0;clear az hs bz bu bN aW aM aL bW
  go_wp2_with fail
  refine(CA.out _ (Qg _ _)).mono ?_;rintro e w4 ⟨v4,i4,rfl,bJ,aI⟩;obtain⟨A4,cM,rfl⟩:=bJ.form;have HT:=hid (Zo HT.out aI);have aS:=hid (aS.out.below aI);obtain⟨r0,r1,r2,r3,r4⟩:=ax.out;have ax:=hid (Zh.bl (w0:=w) (r:=(⟨ops,bp,bm,ap,am⟩,0)) r0 r1 r2 r3 r4 aI);have aT:=hid bJ;clear m0 m1 m2 m3 n0 n1 c0 c1 c2 c3 c4 e0 aI bJ r0 r1 r2 r3 r4 CA HK;simp only at aT ⊢
  go_upto_region 7 with fail
  generalize hY:World.alloc w4 _=Y;have aA:Below w4.heap.size w4 Y:=by rw[<-hY];exact ZW _ _
  have bH:Z5 Y w4.heap.size (.cells #[.int .i64 M.kind,.string M.text,.int .i64 M.cols,.slice A4 M.kids.length cM] 24):=by rw[<-hY];exact Z5.at0 _ _
  have HT:=hid (Zo HT.out aA);have aS:=hid (aS.out.below aA);obtain⟨r0,r1,r2,r3,r4⟩:=ax.out;have ax:=hid (Zh.bl (w0:=w) (r:=(⟨ops,bp,bm,ap,am⟩,0)) r0 r1 r2 r3 r4 aA);have aT:=hid (aT.out.below aA aA.size);obtain⟨g9,bA⟩:∃g9,w4.heap.size=g9:=⟨_,rfl⟩;simp only[bA] at bH ⊢;have dh:=hid bH;clear hY aA bH bA r0 r1 r2 r3 r4;have KF:Hid (∀W,Below Y.heap.size Y W->((W.cell? ⟨w.heap.size,0,none⟩=some (.int .i64 t.kind)/\W.cell? ⟨w.heap.size,1,none⟩=some (.string t.text)/\W.cell? ⟨w.heap.size,2,none⟩=some (.int .i64 t.cols)/\W.cell? ⟨w.heap.size,3,none⟩=some (.slice A t.kids.length cap)/\W.cell? ⟨w.heap.size+1,0,none⟩=some (.slice Ap bp.length cp)/\W.cell? ⟨w.heap.size+1,1,none⟩=some (.slice Am bm.length cm))/\(W.cell? ⟨g7,1,none⟩=some (.slice aU bp.length aO)/\W.cell? ⟨g7,2,none⟩=some (.slice aV bm.length aP)/\W.cell? ⟨g7,3,none⟩=some (.slice bD ap.length bB)/\W.cell? ⟨g7,4,none⟩=some (.slice bG am.length bC))/\(W.cell? ⟨g9,0,none⟩=some (.int .i64 M.kind)/\W.cell? ⟨g9,1,none⟩=some (.string M.text)/\W.cell? ⟨g9,2,none⟩=some (.int .i64 M.cols)/\W.cell? ⟨g9,3,none⟩=some (.slice A4 M.kids.length cM)))/\Below w.heap.size w W):=fun W hW=>by
   obtain⟨h1,h2⟩:=KB.out W (HT.out.trans (hW.mono HT.out.size));have h7:=aS.out.below hW;have h9:=dh.out.below hW;exact⟨⟨⟨h1.1,h1.2.1,h1.2.2.1,h1.2.2.2.1,h1.2.2.2.2.1,h1.2.2.2.2.2.1⟩,⟨h7.cell 1,h7.cell 2,h7.cell 3,h7.cell 4⟩,⟨h9.cell 0,h9.cell 1,h9.cell 2,h9.cell 3⟩⟩,h2⟩
  have CV:Hid (∀(W:World) (q:List Int) (v:Value),Below Y.heap.size Y W->ZO M q=true->Z0 Y (Lt Y.heap.size) q v->Calls Tryz.prog 11 #[.agg #[.int .i64 M.kind,.string M.text,.int .i64 M.cols,.slice A4 M.kids.length cM],v] W fun e w'=>e=.returned (.bool true)/\Below W.heap.size W w'):=fun W q v hW hq hr=>by
   have h9:=zI9 M q A4 cM v W (aT.out.below hW hW.size) aK.out.2.1.2.2 (by have:=aK.out.2.2;omega) (hr.below hW hW.size);rwa[aK.out.1,hq] at h9
  have CS:Hid (∀W,Below Y.heap.size Y W->Calls Tryz.prog 12 #[.agg #[.slice aU bp.length aO,.slice aV bm.length aP],.agg #[.slice Ap bp.length cp,.slice Am bm.length cm]] W fun e w'=>e=.returned (.bool true)/\Below W.heap.size W w'):=fun W hW=>by
   obtain⟨r0,r1,r2,r3,r4⟩:=ax.out;have hw:=(KF.out W hW).2;exact zHr bp bm aU aV Ap Am aO aP cp cm W (r1.below hW hW.size) (r2.below hW hW.size) (bq.out.2.2.1.below hw hw.size) (bq.out.2.2.2.below hw hw.size)
  obtain⟨⟨⟨m0,m1,m2,m3,n0,n1⟩,⟨e1,e2,e3,e4⟩,⟨d0,d1,d2,d3⟩⟩,_⟩:=KF.out Y (Qg _ _);obtain⟨aM,aL⟩:=dD.out
  go_wp2_with fail
  refine(CV.out _ ap _ (Qg _ _) aM ax.out.2.2.2.1).mono ?_;rintro e w5 ⟨rfl,cO⟩;have aR:=hid cO;clear cO m0 m1 m2 m3 n0 n1 e1 e2 e3 e4 d0 d1 d2 d3;obtain⟨⟨⟨m0,m1,m2,m3,n0,n1⟩,⟨e1,e2,e3,e4⟩,⟨d0,d1,d2,d3⟩⟩,_⟩:=KF.out w5 aR.out;rcases Nat.eq_zero_or_pos am.length with hz|hz
  case' inl =>
   have i5:decide ((0:Int)<(am.length:Int))=false:=by rw[decide_eq_false_iff_not];omega
   have bU:decide (0<am.length)=false:=by rw[decide_eq_false_iff_not];omega
   clear hz aM aL
   go_wp2_with fail
   generalize w5=w6 at *;have aQ:=aR
  case' inr =>
   have i5:decide ((0:Int)<(am.length:Int))=true:=by rw[decide_eq_true_eq];omega
   have bU:decide (0<am.length)=true:=by rw[decide_eq_true_eq];omega
   have aX:ZO M am=true:=aL.resolve_left (fun e=>by rw[e] at hz;simp at hz);clear hz aM aL
   go_wp2_with fail
   refine(CV.out _ am _ aR.out aX ax.out.2.2.2.2).mono ?_;rintro e w6 ⟨rfl,au⟩;have aQ:=hid (aR.out.trans (au.mono aR.out.size));clear au m0 m1 m2 m3 n0 n1 e1 e2 e3 e4 d0 d1 d2 d3 aX;obtain⟨⟨⟨m0,m1,m2,m3,n0,n1⟩,⟨e1,e2,e3,e4⟩,⟨d0,d1,d2,d3⟩⟩,_⟩:=KF.out w6 aQ.out
   go_wp2_with fail
  all_goals
   refine(CS.out _ aQ.out).mono ?_;rintro e w7 ⟨rfl,ak⟩;have av:=hid (aQ.out.trans (ak.mono aQ.out.size));clear ak i5 bU m0 m1 m2 m3 n0 n1 e1 e2 e3 e4 d0 d1 d2 d3
   go_upto_region 9 with fail
   generalize w7=V at *;have dB:=hid (dh.out.below av.out);have dC:=hid (aS.out.below av.out);have HKV:=hid (KF.out V av.out).2;have dm:Hid (∀W,Below V.heap.size V W->Calls Tryz.prog 13 #[.slice aG ops.length aC] W fun e w'=>∃A c,e=.returned (.slice A ops.length c)/\Z8 Za w' (fun k=>Lt V.heap.size k\/W.heap.size<=k/\k<w'.heap.size) (WY ops) (.slice A ops.length c)/\Below W.heap.size W w'):=fun W hW=>by
    have hw:=av.out.trans (hW.mono av.out.size);exact zS5 ops aG aC W (Lt V.heap.size) (fun k h=>Qk h hW.size) (ax.out.1.keep (fun q hq=>hw.cell hq) (fun k hk=>Qk hk av.out.size)) bn.out.1
   have bR:Hid (∀(W:World) A6 c6,Below V.heap.size V W->Z8 Za W (Lt W.heap.size) (WY ops) (.slice A6 ops.length c6)->Calls Tryz.prog 10 #[.agg #[.int .i64 M.kind,.string M.text,.int .i64 M.cols,.slice A4 M.kids.length cM],.slice A6 ops.length c6] W (zIx W (t,0))):=fun W A6 c6 hW ho=>by
    have hw:=av.out.trans (hW.mono av.out.size);have h9:=zS2 ops;rw[<-aF.out,<-h9];rw[<-h9] at ho;refine zMf M (WY ops) A4 A6 cM c6 W (aT.out.below hw hw.size) aK.out.2.1 (by have:=aK.out.2.2;omega) ho (by rw[h9];exact bn.out.1) (fun k hk=>?_);obtain⟨_,hg⟩:=QX aF.out;exact zSo _ _ _ hg k hk
   have bQ:Hid (∀(W:World) g A6 c6,Below V.heap.size V W->g<W.heap.size->Z8 Za W (NG g W) (WY ops) (.slice A6 ops.length c6)->V.heap.size<=g->Calls Tryz.prog 10 #[.agg #[.int .i64 M.kind,.string M.text,.int .i64 M.cols,.slice A4 M.kids.length cM],.slice A6 ops.length c6] W (fun e w'=>∃v i,e=.returned (.tuple #[.agg #[.int .i64 t.kind,.string t.text,.int .i64 t.cols,v],.int .i64 i,.int .i64 0])/\Z8 Z6 w' (NG g w') t.kids v/\Below W.heap.size W w')):=fun W g A6 c6 hW hg ho hgV=>by
    have hw:=av.out.trans (hW.mono av.out.size);have h9:=zS2 ops;rw[<-h9] at ho ⊢;refine(zKr M (WY ops) A4 A6 cM c6 W (NG g W) (fun q h=>h.2) (aT.out.keep (fun p hp=>hw.cell hp) (fun k hk=>?_)) aK.out.2.1 (by have:=aK.out.2.2;omega) ho (by rw[h9];exact bn.out.1) (fun k hk=>?_)).mono ?_
    ·have h5:k<Y.heap.size:=hk;have h6:=av.out.size;have h7:=hw.size;unfold NG;omega
    ·obtain⟨_,bA⟩:=QX aF.out;exact zSo _ _ _ bA k hk
    rw[aF.out];rintro e w' ⟨v,i,rfl,h1,h2⟩;refine⟨v,i,rfl,h1.keep (fun _ _=>rfl) (fun q hq=>?_),h2⟩;have:=h2.size;have dx:NG g W q\/(W.heap.size<=q/\q<w'.heap.size):=hq;clear hq;unfold NG at dx ⊢;omega
   have CE:Hid (∀W v,Below w.heap.size w W->Z8 Z6 W (Lt W.heap.size) t.kids v->Calls Tryz.prog 14 #[.agg #[.int .i64 t.kind,.string t.text,.int .i64 t.cols,v],.agg #[.int .i64 t.kind,.string t.text,.int .i64 t.cols,.slice A t.kids.length cap]] W fun e w'=>e=.returned (.bool true)/\Below W.heap.size W w'):=fun W v hW h=>by
    have h9:=zLz t t W v _ h (bq.out.1.below hW hW.size);rwa[(SN t t).2 rfl] at h9
   have df:=hid (HT.out.trans (av.out.mono HT.out.size));have HB:=hid (Below.drew (Qg V.heap.size V));clear CV CS KF aR aQ;refine wp_region_noPanic ?_;refine wp_region_held_drew (S:=fun w'=>Below V.heap.size V w') (by kernel_rfl) (Below.drew (Qg V.heap.size V)) (fun hHeld=>?_);refine wpAnyH_take (i:=0) (oi:=⟨some 78,_,_,_,_,_⟩) (v:=_) rfl (by kernel_rfl) (by kernel_rfl) (by kernel_rfl) (fun _ _ _ h=>h) (Xh 24 (.tmp 9) rfl (by rfl) _ rfl (fun w hS=>dB.out.below hS) Tryz.underlying24 (by kernel_rfl)) hHeld ?_
   try simp only[Act.put,List.setIfInBounds_toArray,List.set_cons_zero,List.set_cons_succ]
   refine wpAnyH_take (i:=1) (oi:=⟨some 79,_,_,_,_,_⟩) (v:=_) rfl (by kernel_rfl) (by kernel_rfl) (by kernel_rfl) (fun _ _ _ h=>h) (Or.inl ⟨by rfl,fun w hS=>by clear hS;go_simp;try with_reducible rfl⟩) hHeld ?_
   try simp only[Act.put,List.setIfInBounds_toArray,List.set_cons_zero,List.set_cons_succ]
   refine wpAnyH_take (i:=2) (oi:=⟨some 80,_,_,_,_,_⟩) (v:=_) rfl (by kernel_rfl) (by kernel_rfl) (by kernel_rfl) (fun _ _ _ h=>h) (Or.inl ⟨by rfl,fun W hS=>by have h:W.cell? ⟨g7,0,none⟩=some (.slice aG ops.length aC):=(dC.out.below hS).cell 0;clear hS;go_simp;try with_reducible rfl⟩) hHeld ?_
   try simp only[Act.put,List.setIfInBounds_toArray,List.set_cons_zero,List.set_cons_succ]
   refine wpAnyH_ready (rs:=[3,9]) (by kernel_rfl) (by simp) ?_;refine(AllReadyH.cons (o:=⟨some 81,_,_,_,_,_⟩) rfl (fun K hK=>?_) (AllReadyH.cons (o:=⟨some 12,_,_,_,_,_⟩) rfl (fun K hK=>?_) AllReadyH.nil));go_simp
   try have bK:=aa.out.2.lt
   refine Calls.mono (dm.out _ HB.out) ?_;rintro e wk ⟨A6,c6,rfl,aH,au⟩
   try have aa:=hid (Qh aa.out.1 (aa.out.2.below au))
   first|have aj:Hid (Z8 Za wk (NG af wk) (WY ops) (.slice A6 ops.length c6)):=hid (aH.keep (fun _ _=>rfl) (fun q hq=>R5 aa.out.1 bK au.size HB.out.size hq))|have aj:Hid (Z8 Za wk (Lt wk.heap.size) (WY ops) (.slice A6 ops.length c6)):=hid (aH.keep (fun _ _=>rfl) (fun q hq=>hq.elim (fun h=>Qk h (Qf HB.out.size au.size)) (fun h=>h.2)))
   have HB:=hid (HB.out.trans (au.mono HB.out.size));clear aH au;refine hK.out _ _ (HB.out) (fun hHeld=>?_);clear hK K
   try simp only[Act.put,List.setIfInBounds_toArray,List.set_cons_zero,List.set_cons_succ]
   refine wpAnyH_ready (rs:=[4,9]) (by kernel_rfl) (by simp) ?_;refine(AllReadyH.cons (o:=⟨some 82,_,_,_,_,_⟩) rfl (fun K hK=>?_) (AllReadyH.cons (o:=⟨some 12,_,_,_,_,_⟩) rfl (fun K hK=>?_) AllReadyH.nil));go_simp
   first|refine Calls.mono (bQ.out _ af _ _ HB.out aa.out.2.lt aj.out aa.out.1) ?_|refine Calls.mono (bR.out _ _ _ HB.out aj.out) ?_
   rintro e wk ⟨v7,i7,rfl,ay,ak⟩;obtain⟨A7,c7,rfl⟩:=ay.form
   try have aa:=hid (Qh aa.out.1 (aa.out.2.below ak))
   have aD:=hid ay;have HB:=hid (HB.out.trans (ak.mono HB.out.size));clear ay ak;refine hK.out _ _ (HB.out) (fun hHeld=>?_);clear hK K
   try simp only[Act.put,List.setIfInBounds_toArray,List.set_cons_zero,List.set_cons_succ]
   refine wpAnyH_take (i:=5) (oi:=⟨some 77,_,_,_,_,_⟩) (v:=_) rfl (by kernel_rfl) (by kernel_rfl) (by kernel_rfl) (fun _ _ _ h=>h) (Or.inl ⟨by rfl,fun w hS=>by clear hS;go_simp;try with_reducible rfl⟩) hHeld ?_
   try simp only[Act.put,List.setIfInBounds_toArray,List.set_cons_zero,List.set_cons_succ]
   refine wpAnyH_take (i:=6) (oi:=⟨some 83,_,_,_,_,_⟩) (v:=_) rfl (by kernel_rfl) (by kernel_rfl) (by kernel_rfl) (fun _ _ _ h=>h) (Or.inl ⟨by rfl,fun w hS=>by clear hS;go_simp;try with_reducible rfl⟩) hHeld ?_
   try simp only[Act.put,List.setIfInBounds_toArray,List.set_cons_zero,List.set_cons_succ]
   refine wpAnyH_take (i:=7) (oi:=⟨some 84,_,_,_,_,_⟩) (v:=_) rfl (by kernel_rfl) (by kernel_rfl) (by kernel_rfl) (fun _ _ _ h=>h) (Or.inl ⟨by rfl,fun w hS=>by clear hS;go_simp;try with_reducible rfl⟩) hHeld ?_
   try simp only[Act.put,List.setIfInBounds_toArray,List.set_cons_zero,List.set_cons_succ]
   refine wpAnyH_take (i:=8) (oi:=⟨some 85,_,_,_,_,_⟩) (v:=_) rfl (by kernel_rfl) (by kernel_rfl) (by kernel_rfl) (fun _ _ _ h=>h) (Or.inl ⟨by rfl,fun w hS=>by clear hS;go_simp;try with_reducible rfl⟩) hHeld ?_
   try simp only[Act.put,List.setIfInBounds_toArray,List.set_cons_zero,List.set_cons_succ]
   refine wpAnyH_ready (rs:=[9]) (by kernel_rfl) (by simp) ?_;refine(AllReadyH.cons (o:=⟨some 12,_,_,_,_,_⟩) rfl (fun K hK=>?_) AllReadyH.nil);go_simp
   first|(have aY:wk.heap.size=wk.heap.size:=rfl;clear aY;obtain⟨af,ae⟩:∃af,wk.heap.size=af:=⟨_,rfl⟩)|(obtain⟨af,ae⟩:∃af,V.heap.size=af:=⟨_,rfl⟩)
   first|refine zBe (fun X9 ah=>?_)|refine zBr (fun X9 ah=>?_)
   simp only[ae];have ag:=ah.out
   try have aj:=hid (QE ae ag.1 aj.out)
   try have aD:=hid (QE ae ag.1 aD.out)
   have aa:Hid (V.heap.size<=af/\Z5 X9 af (.cells #[.int .i64 0,.string ⟨#[]⟩,.int .i64 0,.slice none 0 0] 24)):=hid (Qh (by rw[<-ae];first|exact HB.out.size|exact Qi _) (by rw[<-ae];exact ag.2))
   first|have HB:=hid (HB.out.trans (ag.1.mono HB.out.size))|have HB:=hid ag.1
   clear ag ah ae;refine hK.out _ _ (HB.out) (fun hHeld=>?_);clear hK K
   try simp only[Act.put,List.setIfInBounds_toArray,List.set_cons_zero,List.set_cons_succ]
   rotate_left;go_simp
   first|(have aY:wk.heap.size=wk.heap.size:=rfl;clear aY;obtain⟨af,ae⟩:∃af,wk.heap.size=af:=⟨_,rfl⟩)|(obtain⟨af,ae⟩:∃af,V.heap.size=af:=⟨_,rfl⟩)
   first|refine zBe (fun X9 ah=>?_)|refine zBr (fun X9 ah=>?_)
   simp only[ae];have ag:=ah.out
   try have aj:=hid (QE ae ag.1 aj.out)
   try have aD:=hid (QE ae ag.1 aD.out)
   have aa:Hid (V.heap.size<=af/\Z5 X9 af (.cells #[.int .i64 0,.string ⟨#[]⟩,.int .i64 0,.slice none 0 0] 24)):=hid (Qh (by rw[<-ae];first|exact HB.out.size|exact Qi _) (by rw[<-ae];exact ag.2))
   first|have HB:=hid (HB.out.trans (ag.1.mono HB.out.size))|have HB:=hid ag.1
   clear ag ah ae;refine hK.out _ _ (HB.out) (fun hHeld=>?_);clear hK K
   try simp only[Act.put,List.setIfInBounds_toArray,List.set_cons_zero,List.set_cons_succ]
   refine wpAnyH_ready (rs:=[4]) (by kernel_rfl) (by simp) ?_;refine(AllReadyH.cons (o:=⟨some 82,_,_,_,_,_⟩) rfl (fun K hK=>?_) AllReadyH.nil);go_simp
   first|refine Calls.mono (bQ.out _ af _ _ HB.out aa.out.2.lt aj.out aa.out.1) ?_|refine Calls.mono (bR.out _ _ _ HB.out aj.out) ?_
   rintro e wk ⟨v7,i7,rfl,ay,ak⟩;obtain⟨A7,c7,rfl⟩:=ay.form
   try have aa:=hid (Qh aa.out.1 (aa.out.2.below ak))
   have aD:=hid ay;have HB:=hid (HB.out.trans (ak.mono HB.out.size));clear ay ak;refine hK.out _ _ (HB.out) (fun hHeld=>?_);clear hK K
   try simp only[Act.put,List.setIfInBounds_toArray,List.set_cons_zero,List.set_cons_succ]
   refine wpAnyH_take (i:=5) (oi:=⟨some 77,_,_,_,_,_⟩) (v:=_) rfl (by kernel_rfl) (by kernel_rfl) (by kernel_rfl) (fun _ _ _ h=>h) (Or.inl ⟨by rfl,fun w hS=>by clear hS;go_simp;try with_reducible rfl⟩) hHeld ?_
   try simp only[Act.put,List.setIfInBounds_toArray,List.set_cons_zero,List.set_cons_succ]
   refine wpAnyH_take (i:=6) (oi:=⟨some 83,_,_,_,_,_⟩) (v:=_) rfl (by kernel_rfl) (by kernel_rfl) (by kernel_rfl) (fun _ _ _ h=>h) (Or.inl ⟨by rfl,fun w hS=>by clear hS;go_simp;try with_reducible rfl⟩) hHeld ?_
   try simp only[Act.put,List.setIfInBounds_toArray,List.set_cons_zero,List.set_cons_succ]
   refine wpAnyH_take (i:=7) (oi:=⟨some 84,_,_,_,_,_⟩) (v:=_) rfl (by kernel_rfl) (by kernel_rfl) (by kernel_rfl) (fun _ _ _ h=>h) (Or.inl ⟨by rfl,fun w hS=>by clear hS;go_simp;try with_reducible rfl⟩) hHeld ?_
   try simp only[Act.put,List.setIfInBounds_toArray,List.set_cons_zero,List.set_cons_succ]
   refine wpAnyH_take (i:=8) (oi:=⟨some 85,_,_,_,_,_⟩) (v:=_) rfl (by kernel_rfl) (by kernel_rfl) (by kernel_rfl) (fun _ _ _ h=>h) (Or.inl ⟨by rfl,fun w hS=>by clear hS;go_simp;try with_reducible rfl⟩) hHeld ?_
   try simp only[Act.put,List.setIfInBounds_toArray,List.set_cons_zero,List.set_cons_succ]
   rotate_left;go_simp
   first|(have aY:wk.heap.size=wk.heap.size:=rfl;clear aY;obtain⟨af,ae⟩:∃af,wk.heap.size=af:=⟨_,rfl⟩)|(obtain⟨af,ae⟩:∃af,V.heap.size=af:=⟨_,rfl⟩)
   first|refine zBe (fun X9 ah=>?_)|refine zBr (fun X9 ah=>?_)
   simp only[ae];have ag:=ah.out
   try have aj:=hid (QE ae ag.1 aj.out)
   try have aD:=hid (QE ae ag.1 aD.out)
   have aa:Hid (V.heap.size<=af/\Z5 X9 af (.cells #[.int .i64 0,.string ⟨#[]⟩,.int .i64 0,.slice none 0 0] 24)):=hid (Qh (by rw[<-ae];first|exact HB.out.size|exact Qi _) (by rw[<-ae];exact ag.2))
   first|have HB:=hid (HB.out.trans (ag.1.mono HB.out.size))|have HB:=hid ag.1
   clear ag ah ae;refine hK.out _ _ (HB.out) (fun hHeld=>?_);clear hK K
   try simp only[Act.put,List.setIfInBounds_toArray,List.set_cons_zero,List.set_cons_succ]
   refine wpAnyH_ready (rs:=[3]) (by kernel_rfl) (by simp) ?_;refine(AllReadyH.cons (o:=⟨some 81,_,_,_,_,_⟩) rfl (fun K hK=>?_) AllReadyH.nil);go_simp
   try have bK:=aa.out.2.lt
   refine Calls.mono (dm.out _ HB.out) ?_;rintro e wk ⟨A6,c6,rfl,aH,au⟩
   try have aa:=hid (Qh aa.out.1 (aa.out.2.below au))
   first|have aj:Hid (Z8 Za wk (NG af wk) (WY ops) (.slice A6 ops.length c6)):=hid (aH.keep (fun _ _=>rfl) (fun q hq=>R5 aa.out.1 bK au.size HB.out.size hq))|have aj:Hid (Z8 Za wk (Lt wk.heap.size) (WY ops) (.slice A6 ops.length c6)):=hid (aH.keep (fun _ _=>rfl) (fun q hq=>hq.elim (fun h=>Qk h (Qf HB.out.size au.size)) (fun h=>h.2)))
   have HB:=hid (HB.out.trans (au.mono HB.out.size));clear aH au;refine hK.out _ _ (HB.out) (fun hHeld=>?_);clear hK K
   try simp only[Act.put,List.setIfInBounds_toArray,List.set_cons_zero,List.set_cons_succ]
   refine wpAnyH_ready (rs:=[4]) (by kernel_rfl) (by simp) ?_;refine(AllReadyH.cons (o:=⟨some 82,_,_,_,_,_⟩) rfl (fun K hK=>?_) AllReadyH.nil);go_simp
   first|refine Calls.mono (bQ.out _ af _ _ HB.out aa.out.2.lt aj.out aa.out.1) ?_|refine Calls.mono (bR.out _ _ _ HB.out aj.out) ?_
   rintro e wk ⟨v7,i7,rfl,ay,ak⟩;obtain⟨A7,c7,rfl⟩:=ay.form
   try have aa:=hid (Qh aa.out.1 (aa.out.2.below ak))
   have aD:=hid ay;have HB:=hid (HB.out.trans (ak.mono HB.out.size));clear ay ak;refine hK.out _ _ (HB.out) (fun hHeld=>?_);clear hK K
   try simp only[Act.put,List.setIfInBounds_toArray,List.set_cons_zero,List.set_cons_succ]
   refine wpAnyH_take (i:=5) (oi:=⟨some 77,_,_,_,_,_⟩) (v:=_) rfl (by kernel_rfl) (by kernel_rfl) (by kernel_rfl) (fun _ _ _ h=>h) (Or.inl ⟨by rfl,fun w hS=>by clear hS;go_simp;try with_reducible rfl⟩) hHeld ?_
   try simp only[Act.put,List.setIfInBounds_toArray,List.set_cons_zero,List.set_cons_succ]
   refine wpAnyH_take (i:=6) (oi:=⟨some 83,_,_,_,_,_⟩) (v:=_) rfl (by kernel_rfl) (by kernel_rfl) (by kernel_rfl) (fun _ _ _ h=>h) (Or.inl ⟨by rfl,fun w hS=>by clear hS;go_simp;try with_reducible rfl⟩) hHeld ?_
   try simp only[Act.put,List.setIfInBounds_toArray,List.set_cons_zero,List.set_cons_succ]
   refine wpAnyH_take (i:=7) (oi:=⟨some 84,_,_,_,_,_⟩) (v:=_) rfl (by kernel_rfl) (by kernel_rfl) (by kernel_rfl) (fun _ _ _ h=>h) (Or.inl ⟨by rfl,fun w hS=>by clear hS;go_simp;try with_reducible rfl⟩) hHeld ?_
   try simp only[Act.put,List.setIfInBounds_toArray,List.set_cons_zero,List.set_cons_succ]
   refine wpAnyH_take (i:=8) (oi:=⟨some 85,_,_,_,_,_⟩) (v:=_) rfl (by kernel_rfl) (by kernel_rfl) (by kernel_rfl) (fun _ _ _ h=>h) (Or.inl ⟨by rfl,fun w hS=>by clear hS;go_simp;try with_reducible rfl⟩) hHeld ?_
   try simp only[Act.put,List.setIfInBounds_toArray,List.set_cons_zero,List.set_cons_succ]
   rotate_left
   all_goals
    refine wpAnyH_ready (rs:=[10]) (by kernel_rfl) (by simp) ?_;refine(AllReadyH.cons (o:=⟨none,_,_,_,_,_⟩) rfl (fun K hK=>?_) AllReadyH.nil);rw[if_pos (by rfl)];refine wp_store_row 24 (.tmp 12) (.tmp 83) rfl af _ rfl rfl 24 _ aa.out.2 (by kernel_rfl) (by simp) (by simp[Value.oneCell']) ?_;refine Rx aa.out.2 (fun X9 ah=>?_);have dn:=hid (HB.out.trans (ah.out.1.below HB.out.size (fun k e=>by rw[e];exact aa.out.1)));have bP:Hid (Z8 Z6 X9 (Lt X9.heap.size) t.kids (.slice A7 t.kids.length c7)):=hid (aD.out.keep (fun p hp=>ah.out.1.cell hp.2 hp.1) (fun k hk=>Qk hk.2 ah.out.1.size));refine hK.out _ _ (dn.out) (fun hHeld=>?_);clear hK K
    try simp only[Act.put,List.setIfInBounds_toArray,List.set_cons_zero,List.set_cons_succ]
    refine wpAnyH_take (i:=11) (oi:=⟨some 13,_,_,_,_,_⟩) (v:=_) rfl (by kernel_rfl) (by kernel_rfl) (by kernel_rfl) (fun _ _ _ h=>h) (Or.inl ⟨by rfl,fun w hS=>by clear hS;go_simp;try with_reducible rfl⟩) hHeld ?_
    try simp only[Act.put,List.setIfInBounds_toArray,List.set_cons_zero,List.set_cons_succ]
    refine wpAnyH_take (i:=12) (oi:=⟨some 14,_,_,_,_,_⟩) (v:=_) rfl (by kernel_rfl) (by kernel_rfl) (by kernel_rfl) (fun _ _ _ h=>h) (Or.inl ⟨by rfl,fun w hS=>by clear hS;go_simp;try with_reducible rfl⟩) hHeld ?_
    try simp only[Act.put,List.setIfInBounds_toArray,List.set_cons_zero,List.set_cons_succ]
    refine wpAnyH_done (by kernel_rfl) ?_ _;refine NoPanic.normal ?_
   all_goals
    obtain⟨⟨m0,m1,m2,m3,_,_,_,_,_,_,_⟩,az⟩:=KB.out X9 (df.out.trans (dn.out.mono df.out.size));have HK:=hid az;have b0:=ah.out.2.1.cell 0;have b1:=ah.out.2.1.cell 1;have b2:=ah.out.2.1.cell 2;have b3:=ah.out.2.1.cell 3;simp only[List.getElem?_toArray,List.getElem?_cons_zero,List.getElem?_cons_succ] at b0 b1 b2 b3;clear az
    go_wp2_with fail
    refine(CE.out _ _ HK.out bP.out).mono ?_;rintro e w8 ⟨rfl,cK⟩;have HK:=hid (Zo HK.out cK);clear cK m0 m1 m2 m3 b0 b1 b2 b3
    go_wp2_with fail
    go_ret;exact⟨rfl,HK.out⟩
