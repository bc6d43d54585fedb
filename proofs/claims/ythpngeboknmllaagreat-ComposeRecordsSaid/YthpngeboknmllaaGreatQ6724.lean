/- T -/
import Derived.Test.YthpngeboknmllaaGreatQ4b31
import Derived.Test.YthpngeboknmllaaGreatQc8a0
set_option linter.unusedVariables false
set_option linter.unusedSimpArgs false
set_option maxHeartbeats 2000000
set_option maxRecDepth 100000
namespace Go.Proofs.YthpngeboknmllaaGreat
open Go.RowKit
theorem zGz (t:Z9) (p:List Int) (A:Option Addr) (cap:Nat) (b:Value) (w:World) (hv:Z8 Z6 w (Lt w.heap.size) t.kids (.slice A t.kids.length cap)) (ag:t.text.size<=maxLen) (hp:Z0 w (Lt w.heap.size) p b) :
  Calls Tryz.prog 141 #[.agg #[.int .i64 t.kind,.string t.text,.int .i64 t.cols,.slice A t.kids.length cap],b] w fun e w'=>e=.returned (.bool (ZU t&&ZO t p))/\Below w.heap.size w w':=by
 have aj:Below w.heap.size w (w.alloc (Obj.cells #[.int .i64 t.kind,.string t.text,.int .i64 t.cols,.slice A t.kids.length cap] 24)):=WI _ _;have ae:=hid aj;have C1:Hid (∀W,Below w.heap.size w W->Calls Tryz.prog 53 #[.agg #[.int .i64 t.kind,.string t.text,.int .i64 t.cols,.slice A t.kids.length cap]] W fun e w'=>e=.returned (.bool (ZU t))/\Below W.heap.size W w'):=fun W hW=>Wh t A cap W (hv.below hW hW.size) ag
 have C2:Hid (∀W,Below w.heap.size w W->Calls Tryz.prog 145 #[.agg #[.int .i64 t.kind,.string t.text,.int .i64 t.cols,.slice A t.kids.length cap],b] W fun e w'=>e=.returned (.bool (ZO t p))/\Below W.heap.size W w'):=fun W hW=>UR t p A cap b W (hv.below hW hW.size) ag (hp.below hW hW.size)
 have KB:Hid (∀W,Below (w.alloc (Obj.cells #[.int .i64 t.kind,.string t.text,.int .i64 t.cols,.slice A t.kids.length cap] 24)).heap.size (w.alloc (Obj.cells #[.int .i64 t.kind,.string t.text,.int .i64 t.cols,.slice A t.kids.length cap] 24)) W->YS W w.heap.size t.kind t.cols t.text (.slice A t.kids.length cap)) :=
  fun W hW=>(YS.new w t.kind t.cols t.text _).below hW (by simp)
 obtain⟨A',cap',rfl⟩:=hp.form;generalize ZO t p=b2 at *;generalize ZU t=b1 at *;obtain⟨tk,tx,tc,ts⟩:=t;simp only[Z9.kind,Z9.text,Z9.cols,Z9.kids] at *;clear hv ag hp aj;cases b1
 ·go_enter Tryz.func141,Tryz.ntmps141
  go_wp2_with fail
  refine(C1.out _ ae.out).mono ?_;rintro e w1 ⟨rfl,aa⟩;have af:=hid (ae.out.trans (aa.mono ae.out.size));clear aa
  go_wp2_with fail
  go_ret;exact⟨rfl,af.out⟩
 go_enter Tryz.func141,Tryz.ntmps141
 go_wp2_with fail
 refine(C1.out _ ae.out).mono ?_;rintro e w1 ⟨rfl,aa⟩;have af:=hid (ae.out.trans (aa.mono ae.out.size));obtain⟨p0,p1,p2,p3⟩:=KB.out w1 aa;clear aa
 go_wp2_with fail
 refine(C2.out _ af.out).mono ?_;rintro e w2 ⟨rfl,ah⟩;have ak:=hid (af.out.trans (ah.mono af.out.size));clear ah p0 p1 p2 p3
 go_wp2_with fail
 go_ret;exact⟨rfl,ak.out⟩
def zG5 (w:World) (b1 b2 b3:Bool) (r:List Int×Int×Int) (e:Ending) (w':World):Prop :=
 Below w.heap.size w w'/\((b1=false/\e=.returned (.tuple #[.agg #[.slice none 0 0,.int .i64 0,.int .i64 0],.int .i64 1])) \/
  (b1=true/\(b2&&b3)=false/\e=.returned (.tuple #[.agg #[.slice none 0 0,.int .i64 0,.int .i64 0],.int .i64 2])) \/
  (b1=true/\b2=true/\b3=true/\∃v,e=.returned (.tuple #[.agg #[v,.int .i64 r.2.1,.int .i64 r.2.2],.int .i64 0])/\Z0 w' (fun k=>w.heap.size<=k/\k<w'.heap.size) r.1 v))
theorem zHf {t:Z9} {p:List Int} (hc:ZR t<=1000) (h:ZO t p=true):0<p.length/\p.length<=1000000/\∀x∈p,0<=x/\x<=1000000:=by
 obtain⟨h1,h2⟩:=zKd t p h;have hd:=zDl t;refine⟨?_,by omega,fun x hx=>?_⟩
 ·rcases p with _|⟨_,_⟩
  ·simp[ZO] at h
  simp
 have:=h2 x hx;omega
theorem zFj (t:Z9) (a b:List Int) (A:Option Addr) (cap:Nat) (va vb:Value) (w:World) (hv:Z8 Z6 w (Lt w.heap.size) t.kids (.slice A t.kids.length cap)) (aK:t.text.size<=maxLen) (ha:Z0 w (Lt w.heap.size) a va) (hb:Z0 w (Lt w.heap.size) b vb) :
  Calls Tryz.prog 112 #[.agg #[.int .i64 t.kind,.string t.text,.int .i64 t.cols,.slice A t.kids.length cap],va,vb] w (zG5 w (ZU t) (ZO t a) (ZO t b) (Yp a b)):=by
 obtain⟨Aa,ca,rfl⟩:=ha.form;obtain⟨Ab,cb,rfl⟩:=hb.form;have C1:Hid (∀W,Below w.heap.size w W->Calls Tryz.prog 53 #[.agg #[.int .i64 t.kind,.string t.text,.int .i64 t.cols,.slice A t.kids.length cap]] W fun e w'=>e=.returned (.bool (ZU t))/\Below W.heap.size W w'):=fun W hW=>Wh t A cap W (hv.below hW hW.size) aK
 have C2:Hid (∀W,Below w.heap.size w W->ZU t=true->Calls Tryz.prog 141 #[.agg #[.int .i64 t.kind,.string t.text,.int .i64 t.cols,.slice A t.kids.length cap],.slice Aa a.length ca] W fun e w'=>e=.returned (.bool (ZO t a))/\Below W.heap.size W w'):=fun W hW h=>by
  have:=zGz t a A cap _ W (hv.below hW hW.size) aK (ha.below hW hW.size);rwa[h,Bool.true_and] at this
 have C3:Hid (∀W,Below w.heap.size w W->ZU t=true->Calls Tryz.prog 141 #[.agg #[.int .i64 t.kind,.string t.text,.int .i64 t.cols,.slice A t.kids.length cap],.slice Ab b.length cb] W fun e w'=>e=.returned (.bool (ZO t b))/\Below W.heap.size W w'):=fun W hW h=>by
  have:=zGz t b A cap _ W (hv.below hW hW.size) aK (hb.below hW hW.size);rwa[h,Bool.true_and] at this
 have C4:Hid (∀W,Below w.heap.size w W->ZU t=true->ZO t a=true->ZO t b=true->Calls Tryz.prog 142 #[.slice Aa a.length ca,.slice Ab b.length cb] W (zMg W (Yp a b))):=fun W hW h1 h2 h3=>by
  have hc:ZR t<=1000:=by unfold ZU at h1;simp only[Bool.and_eq_true,decide_eq_true_eq] at h1;omega
  obtain⟨x1,x2,x3⟩:=zHf hc h2;obtain⟨y1,y2,y3⟩:=zHf hc h3;exact zNh a b Aa Ab ca cb W (ha.below hW hW.size) (hb.below hW hW.size) x1 y1 ⟨x2,y2⟩ x3 y3
 generalize Yp a b=r at *;generalize ZO t a=b2 at *;generalize ZO t b=b3 at *;generalize ZU t=b1 at *;obtain⟨tk,tx,tc,ts⟩:=t;simp only[Z9.kind,Z9.text,Z9.cols,Z9.kids] at *;clear hv aK ha hb;generalize aP:(w.alloc (Obj.cells #[.int .i64 tk,.string tx,.int .i64 tc,.slice A ts.length cap] 24)).alloc (.cells #[.slice none 0 0,.int .i64 0,.int .i64 0] 67)=W0;have KB:Hid (∀W,Below W0.heap.size W0 W->(W.cell? ⟨w.heap.size,0,none⟩=some (.int .i64 tk)/\W.cell? ⟨w.heap.size,1,none⟩=some (.string tx)/\W.cell? ⟨w.heap.size,2,none⟩=some (.int .i64 tc)/\W.cell? ⟨w.heap.size,3,none⟩=some (.slice A ts.length cap)) /\
   (W.cell? ⟨w.heap.size+1,0,none⟩=some (.slice none 0 0)/\W.cell? ⟨w.heap.size+1,1,none⟩=some (.int .i64 0)/\W.cell? ⟨w.heap.size+1,2,none⟩=some (.int .i64 0)) /\
   (W.frozen? ⟨w.heap.size+1,0,none⟩=false/\W.frozen? ⟨w.heap.size+1,1,none⟩=false/\W.frozen? ⟨w.heap.size+1,2,none⟩=false)/\Below w.heap.size w W/\w.heap.size+1<W.heap.size):=by
  intro W hW;have hz:W0.heap.size=w.heap.size+1+1:=by rw[<-aP];simp
  have hc:=(bcell hW).1;have hf:=(bcell hW).2;have aW:Below w.heap.size w W0:=by rw[<-aP];exact Below.alloc (WI _ _) (by simp) _
  refine⟨⟨(hc _ _ (by omega)).trans ?_,(hc _ _ (by omega)).trans ?_,(hc _ _ (by omega)).trans ?_,(hc _ _ (by omega)).trans ?_⟩,⟨(hc _ _ (by omega)).trans ?_,(hc _ _ (by omega)).trans ?_,(hc _ _ (by omega)).trans ?_⟩,⟨(hf _ _ (by omega)).trans ?_,(hf _ _ (by omega)).trans ?_,(hf _ _ (by omega)).trans ?_⟩,aW.trans (hW.mono aW.size),by have:=hW.size;omega⟩
  all_goals (rw[<-aP];first|exact Xn _ _ _ _ _ _ rfl|exact YY _ _ _ _ _ (by simp)|exact YK _ _ _ _ _ (by simp))
 rcases b1 with _|_
 ·clear C2 C3 C4;obtain⟨⟨m0,m1,m2,m3⟩,⟨c0,c1,c2⟩,⟨f0,f1,f2⟩,ae,aB⟩:=KB.out W0 (Qg _ _);have au:=hid ae;clear ae;go_enter Tryz.func112,Tryz.ntmps112
  go_wp2_with fail
  refine(C1.out _ au.out).mono ?_;rintro e w1 ⟨rfl,aj⟩;clear m0 m1 m2 m3 c0 c1 c2 f0 f1 f2 aB;obtain⟨⟨m0,m1,m2,m3⟩,aC,⟨f0,f1,f2⟩,aa,aM⟩:=KB.out w1 aj;have ag:=hid aj;have ak:=hid aa;obtain⟨c0,c1,c2⟩:=aC;have aF:=hid (Qh c0 (Qh c1 c2));clear aj aa
  go_wp2_with fail
  generalize hW:((w1.setCell _ (.slice none 0 0)).setCell _ (.int .i64 0)).setCell _ (.int .i64 0)=W;obtain⟨⟨r0,r1,r2⟩,rz,rb,ro⟩:=three aF.out.1 aF.out.2.1 aF.out.2.2 _ _ _ hW.symm;have aD:=hid (rb w.heap.size w (by omega) ak.out);have _u:=trivial;clear hW ro rb;refine bodyPost_ret (v:=.tuple #[.agg #[(.slice none 0 0),(.int .i64 0),(.int .i64 0)],.int .i64 1]) (by simp[results,Tryz.results112,go_sem,r0,r1,r2]) rfl ?_;exact⟨aD.out,.inl ⟨rfl,rfl⟩⟩
 rcases b2 with _|_
 ·clear C3 C4;obtain⟨⟨m0,m1,m2,m3⟩,⟨c0,c1,c2⟩,⟨f0,f1,f2⟩,ae,aB⟩:=KB.out W0 (Qg _ _);have au:=hid ae;clear ae;go_enter Tryz.func112,Tryz.ntmps112
  go_wp2_with fail
  refine(C1.out _ au.out).mono ?_;rintro e w1 ⟨rfl,aj⟩;clear m0 m1 m2 m3 c0 c1 c2 f0 f1 f2 aB;obtain⟨⟨m0,m1,m2,m3⟩,aC,⟨f0,f1,f2⟩,aa,aM⟩:=KB.out w1 aj;have ag:=hid aj;have ak:=hid aa;obtain⟨c0,c1,c2⟩:=aC;have aF:=hid (Qh c0 (Qh c1 c2));clear aj aa
  go_wp2_with fail
  refine(C2.out _ ak.out (by first|rfl|trivial)).mono ?_;rintro e w2 ⟨rfl,aA⟩;clear m0 m1 m2 m3 f0 f1 f2 c0 c1 c2;have af:=hid (ag.out.trans (aA.mono ag.out.size));obtain⟨⟨m0,m1,m2,m3⟩,aG,⟨f0,f1,f2⟩,ah,aV⟩:=KB.out w2 af.out;have ax:=hid ah;obtain⟨c0,c1,c2⟩:=aG;have aJ:=hid (Qh c0 (Qh c1 c2));clear aA ah
  go_wp2_with fail
  generalize hW:((w2.setCell _ (.slice none 0 0)).setCell _ (.int .i64 0)).setCell _ (.int .i64 0)=W;obtain⟨⟨r0,r1,r2⟩,rz,rb,ro⟩:=three aJ.out.1 aJ.out.2.1 aJ.out.2.2 _ _ _ hW.symm;have aD:=hid (rb w.heap.size w (by omega) ax.out);have _u:=trivial;clear hW ro rb;refine bodyPost_ret (v:=.tuple #[.agg #[(.slice none 0 0),(.int .i64 0),(.int .i64 0)],.int .i64 2]) (by simp[results,Tryz.results112,go_sem,r0,r1,r2]) rfl ?_;exact⟨aD.out,.inr (.inl ⟨rfl,rfl,rfl⟩)⟩
 rcases b3 with _|_
 ·clear C4;obtain⟨⟨m0,m1,m2,m3⟩,⟨c0,c1,c2⟩,⟨f0,f1,f2⟩,ae,aB⟩:=KB.out W0 (Qg _ _);have au:=hid ae;clear ae;go_enter Tryz.func112,Tryz.ntmps112
  go_wp2_with fail
  refine(C1.out _ au.out).mono ?_;rintro e w1 ⟨rfl,aj⟩;clear m0 m1 m2 m3 c0 c1 c2 f0 f1 f2 aB;obtain⟨⟨m0,m1,m2,m3⟩,aC,⟨f0,f1,f2⟩,aa,aM⟩:=KB.out w1 aj;have ag:=hid aj;have ak:=hid aa;obtain⟨c0,c1,c2⟩:=aC;have aF:=hid (Qh c0 (Qh c1 c2));clear aj aa
  go_wp2_with fail
  refine(C2.out _ ak.out (by first|rfl|trivial)).mono ?_;rintro e w2 ⟨rfl,aA⟩;clear m0 m1 m2 m3 f0 f1 f2 c0 c1 c2;have af:=hid (ag.out.trans (aA.mono ag.out.size));obtain⟨⟨m0,m1,m2,m3⟩,aG,⟨f0,f1,f2⟩,ah,aV⟩:=KB.out w2 af.out;have ax:=hid ah;obtain⟨c0,c1,c2⟩:=aG;have aJ:=hid (Qh c0 (Qh c1 c2));clear aA ah
  go_wp2_with fail
  refine(C3.out _ ax.out (by first|rfl|trivial)).mono ?_;rintro e w3 ⟨rfl,aI⟩;clear m0 m1 m2 m3 f0 f1 f2 c0 c1 c2;have ay:=hid (af.out.trans (aI.mono af.out.size));obtain⟨⟨m0,m1,m2,m3⟩,aN,⟨f0,f1,f2⟩,av,aU⟩:=KB.out w3 ay.out;have az:=hid av;obtain⟨c0,c1,c2⟩:=aN;have aL:=hid (Qh c0 (Qh c1 c2));clear aI av
  go_wp2_with fail
  generalize hW:((w3.setCell _ (.slice none 0 0)).setCell _ (.int .i64 0)).setCell _ (.int .i64 0)=W;obtain⟨⟨r0,r1,r2⟩,rz,rb,ro⟩:=three aL.out.1 aL.out.2.1 aL.out.2.2 _ _ _ hW.symm;have aD:=hid (rb w.heap.size w (by omega) az.out);have _u:=trivial;clear hW ro rb;refine bodyPost_ret (v:=.tuple #[.agg #[(.slice none 0 0),(.int .i64 0),(.int .i64 0)],.int .i64 2]) (by simp[results,Tryz.results112,go_sem,r0,r1,r2]) rfl ?_;exact⟨aD.out,.inr (.inl ⟨rfl,rfl,rfl⟩)⟩
 skip
 obtain⟨⟨m0,m1,m2,m3⟩,⟨c0,c1,c2⟩,⟨f0,f1,f2⟩,ae,aB⟩:=KB.out W0 (Qg _ _);have au:=hid ae;clear ae;go_enter Tryz.func112,Tryz.ntmps112
 go_wp2_with fail
 refine(C1.out _ au.out).mono ?_;rintro e w1 ⟨rfl,aj⟩;clear m0 m1 m2 m3 c0 c1 c2 f0 f1 f2 aB;obtain⟨⟨m0,m1,m2,m3⟩,aC,⟨f0,f1,f2⟩,aa,aM⟩:=KB.out w1 aj;have ag:=hid aj;have ak:=hid aa;obtain⟨c0,c1,c2⟩:=aC;have aF:=hid (Qh c0 (Qh c1 c2));clear aj aa
 go_wp2_with fail
 refine(C2.out _ ak.out (by first|rfl|trivial)).mono ?_;rintro e w2 ⟨rfl,aA⟩;clear m0 m1 m2 m3 f0 f1 f2 c0 c1 c2;have af:=hid (ag.out.trans (aA.mono ag.out.size));obtain⟨⟨m0,m1,m2,m3⟩,aG,⟨f0,f1,f2⟩,ah,aV⟩:=KB.out w2 af.out;have ax:=hid ah;obtain⟨c0,c1,c2⟩:=aG;have aJ:=hid (Qh c0 (Qh c1 c2));clear aA ah
 go_wp2_with fail
 refine(C3.out _ ax.out (by first|rfl|trivial)).mono ?_;rintro e w3 ⟨rfl,aI⟩;clear m0 m1 m2 m3 f0 f1 f2 c0 c1 c2;have ay:=hid (af.out.trans (aI.mono af.out.size));obtain⟨⟨m0,m1,m2,m3⟩,aN,⟨f0,f1,f2⟩,av,aU⟩:=KB.out w3 ay.out;have az:=hid av;obtain⟨c0,c1,c2⟩:=aN;have aL:=hid (Qh c0 (Qh c1 c2));clear aI av
 go_wp2_with fail
 refine(C4.out _ az.out (by first|rfl|trivial) (by first|rfl|trivial) (by first|rfl|trivial)).mono ?_;rintro e w4 ⟨v4,rfl,aO,aX⟩;obtain⟨A4,aQ,rfl⟩:=aO.form;have aZ:=hid aO;clear aO;clear m0 m1 m2 m3 f0 f1 f2 c0 c1 c2;have aT:=hid (ay.out.trans (aX.mono ay.out.size));obtain⟨⟨m0,m1,m2,m3⟩,aY,⟨f0,f1,f2⟩,aH,hz4⟩:=KB.out w4 aT.out;have aS:=hid aH;obtain⟨c0,c1,c2⟩:=aY;have aR:=hid (Qh c0 (Qh c1 c2));clear aX aH
 go_wp2_with fail
 generalize hW:((w4.setCell _ (.slice A4 r.1.length aQ)).setCell _ (.int .i64 r.2.1)).setCell _ (.int .i64 r.2.2)=W;obtain⟨⟨r0,r1,r2⟩,rz,rb,ro⟩:=three aR.out.1 aR.out.2.1 aR.out.2.2 _ _ _ hW.symm;have aD:=hid (rb w.heap.size w (by omega) aS.out);have bg:Hid (Z0 W (fun k=>w.heap.size<=k/\k<W.heap.size) r.1 (.slice A4 r.1.length aQ)):=by
  refine aZ.out.keep (fun p hp=>ro p ?_) (fun j hj=>?_)
  ·have:=hp.1;have:=aU;omega
  have:=hj.1;have:=hj.2;have:=az.out.size;exact⟨by omega,by omega⟩
 clear hW ro rb;refine bodyPost_ret (v:=.tuple #[.agg #[(.slice A4 r.1.length aQ),(.int .i64 r.2.1),(.int .i64 r.2.2)],.int .i64 0]) (by simp[results,Tryz.results112,go_sem,r0,r1,r2]) rfl ?_;exact⟨aD.out,.inr (.inr ⟨rfl,rfl,rfl,_,rfl,bg.out⟩)⟩
def RL (w:World) (T:Nat->Prop) (g0 o0:Nat) (t:Z9) (p:List Int) (e:Ending) (w':World):Prop :=
 (∃n,w'=w.drewN n)/\((ZE t p=none/\∃q,e=.returned (.tuple #[.pointer q,.bool false]))\/∃t' g o,ZE t p=some t'/\e=.returned (.tuple #[.pointer (some ⟨g,o,none⟩),.bool true])/\Yo w T g o t'/\WT w T g0 o0 t (p.map Int.toNat) g o)
def zOd (w:World) (T:Nat->Prop) (g0 o0:Nat) (t:Z9) (p p':List Int) (g o:Nat) (t':Z9):Prop :=
 ∃pre:List Nat,p.map Int.toNat=pre++p'.map Int.toNat/\∀r g' o',WT w T g o t' r g' o'->WT w T g0 o0 t (pre++r) g' o'
theorem zOd.step {w:World} {T:Nat->Prop} {g0 o0 g o b x c:Nat} {t t':Z9} {p q:List Int} {i:Nat} (h:zOd w T g0 o0 t p ((i:Int)::q) g o t') (hi:i<t'.kids.length) (hc:w.cell? ⟨g,o+3,none⟩=some (.slice (some ⟨b,x,none⟩) t'.kids.length c)) (hT:T b):zOd w T g0 o0 t p q b (x+i*4) t'.kids[i]:=by
 obtain⟨pre,h1,h2⟩:=h;refine⟨pre++[i],by rw[h1];simp,fun r g' o' hl=>?_⟩;have h3:=h2 (i::r) g' o' (.step g o t' i r b x c hi g' o' hc hT hl);simpa using h3
theorem zKh (t:Z9) (p:List Int) (g0 o0:Nat) (b:Value) (w:World) (T:Nat->Prop) (hT:∀k,T k->k<w.heap.size) (aR:g0<w.heap.size) (aN:Yo w T g0 o0 t) (hp:Z0 w (Lt w.heap.size) p b) :
  Calls Tryz.prog 113 #[.pointer (some ⟨g0,o0,none⟩),b] w (RL w T g0 o0 t p):=by
 have aV:=hid hT;have bz:=hid aR;clear hT aR;have HN:=hid aN;have HP:=hid hp;obtain⟨A',cap',rfl⟩:=hp.form;clear aN hp;go_enter Tryz.func113,Tryz.ntmps113
 go_wp2_with fail
 go_loopw [1,0] (fun c r wr=>(∃n,wr=w.drewN n)/\∃(p':List Int) (t':Z9) (g o:Nat),r=.pointer (some ⟨g,o,none⟩)/\Z0 w (Lt w.heap.size) p' c/\g<w.heap.size/\Yo w T g o t'/\zOd w T g0 o0 t p p' g o t'/\ZE t' p'=ZE t p)
  (fun c _ _=>match c with|.slice _ n _=>n|_=>0)
 case atStart=>exact⟨⟨0,rfl⟩,p,t,g0,o0,rfl,HP.out,bz.out,HN.out,⟨[],rfl,fun r g' o' h=>h⟩,rfl⟩
 obtain⟨⟨n,rfl⟩,p',t',g,o,rfl,aM,hg,hn,aj,ah⟩:=hrel;have aa:=hid aj;clear aj;have HR:=hid ah;have aA:=hid aM;have bq:=hid hn;obtain⟨_,⟨c0,c1,c2,c3⟩,aY,A1,bg,rs,rfl,h4,h5,h6,h7⟩:=hn;obtain⟨A2,aJ,ws,rfl,h8,h9,ag,af⟩:=aM;have aC:p'.length<=9223372036854775807:=by unfold maxLen at h9;omega
 have hl2:t'.kids.length<=9223372036854775807:=by unfold maxLen at h5;omega
 have hgl:g<w.heap.size:=hg;clear ah HN HP
 match p',aC,HR,aA,aa,h8,ag,af with
 |
  [],aC,HR,aA,aa,h8,ag,af =>
  have HF:Hid (ZE t p=some t'):=by show _=_;rw[<-HR.out];simp[ZE]
  clear ag af h6 h7
  go_wp2_with fail
  refine bodyPost_ret (v:=.tuple #[.pointer (some ⟨g,o,none⟩),.bool true]) (by simp[results,Tryz.results113,go_sem]) rfl ?_;exact⟨by first|exact⟨_,rfl⟩|(simp only[World.drewN_drewN];exact⟨_,rfl⟩),.inr ⟨_,_,_,HF.out,rfl,bq.out,by obtain⟨pre,h1,h2⟩:=aa.out;rw[h1];exact h2 [] _ _ (.here _ _ _)⟩⟩
 |
  [i],aC,HR,aA,aa,h8,ag,af =>
  have HF:Hid (ZE t p=none):=by show _=_;rw[<-HR.out];simp[ZE]
  clear ag af h6 h7
  go_wp2_with fail
  refine bodyPost_ret (v:=.tuple #[.pointer (some ⟨g,o,none⟩),.bool false]) (by simp[results,Tryz.results113,go_sem]) rfl ?_;exact⟨by first|exact⟨_,rfl⟩|(simp only[World.drewN_drewN];exact⟨_,rfl⟩),.inl ⟨HF.out,_,rfl⟩⟩
 |
  i::k::q,aC,HR,aA,aa,h8,ag,af =>
  obtain⟨g',o',rfl,hg',hi,a0⟩:=X5 ag af (k:=0) (by simp);obtain⟨g2,o2,hq,hg2,hk,a1⟩:=X5 ag af (k:=1) (by simp);cases hq;simp only[List.getElem_cons_zero,List.getElem_cons_succ,Nat.add_zero] at a0 a1 hi hk;obtain⟨A3,aW,hcut⟩:=TM ZA Tryz.underlying25 WO (some ⟨g',o',none⟩) (i::k::q).length aJ 2 2 rfl (by simp);have aL:=hid (hcut _ _ _ aA.out);simp only[List.drop_succ_cons,List.drop_zero] at aL;have i3:(2:Int)<=((i::k::q).length:Int):=by simp;omega
  have ak:(i::k::q).length-2=q.length:=by simp
  have aX:Hid (q.length<(i::k::q).length):=by show _<_;simp;omega
  rw[ak] at aW aL;have m0:(0:Int)<((i::k::q).length:Int):=by simp;omega
  have m2:0<(i::k::q).length:=by simp
  have m1:1<(i::k::q).length:=by simp
  have m3:(1:Int)<((i::k::q).length:Int):=by simp;omega
  clear hcut ak ag af;generalize (i::k::q).length=m at *;have HX:Hid (ZE t p=ZE t' (i::k::q)):=HR.out.symm;have aK:=hid (show ZE t' (i::k::q)=_ by rw[ZE]);clear HR;by_cases hx:0<=i/\i.toNat<t'.kids.length
  ·obtain⟨hx1,av⟩:=hx;obtain⟨i',rfl⟩:∃i':Nat,i=i':=⟨i.toNat,by omega⟩;simp only[Int.toNat_natCast] at av;obtain⟨gk,ok,B1,b1,bs1,rfl,aQ,t0,t1,t2,t3,_,_,hts,aU,aI,aF,aG⟩:=YW h6 h7 av;have ae:=hid (aa.out.step av c3 aQ);have HPT:=aa;clear aa;have j0:decide ((i':Int)<0)=false:=by simp
   have j1:¬(i':Int)<0:=by omega
   have j2:decide ((t'.kids.length:Int)<=i')=false:=by simp;omega
   have j3:(i':Int)<(t'.kids.length:Int):=by omega
   have aZ:gk<w.heap.size:=aV.out _ aQ;have hl3:t'.kids[i'].kids.length<=9223372036854775807:=by unfold maxLen at aI;omega
   by_cases hy:0<=k/\k.toNat<t'.kids[i'].kids.length
   ·obtain⟨hy1,aB⟩:=hy;obtain⟨k',rfl⟩:∃k':Nat,k=k':=⟨k.toNat,by omega⟩;simp only[Int.toNat_natCast] at aB;obtain⟨gl,ol,B2,b2,bn,rfl,az,s0,s1,s2,s3,aP,aO,aD,aT,aS,ax,ay⟩:=YW aF aG aB;have au:=hid (ae.out.step aB t3 az);clear ae;have j4:decide ((k':Int)<0)=false:=by simp
    have j5:¬(k':Int)<0:=by omega
    have j6:decide ((t'.kids[i'].kids.length:Int)<=k')=false:=by simp;omega
    have j7:(k':Int)<(t'.kids[i'].kids.length:Int):=by omega
    have HF:Hid (ZE t'.kids[i'].kids[k'] q=ZE t p):=by
     show _=_;rw[HX.out,ZE,dif_pos ⟨by omega,by simpa using av⟩,dif_pos ⟨by omega,by simpa using aB⟩];rfl
    have bu:Hid (Yo w T gl (ol+k'*4) t'.kids[i'].kids[k']):=⟨_,⟨s0,s1,s2,s3⟩,⟨aP,aO,aD⟩,_,_,bn,rfl,aT,aS,ax,ay⟩;have aH:gl<w.heap.size:=aV.out _ az;clear aP aO;clear aF aG ax ay h6 h7 HX aK aT aS aU aI
    go_wp2_with fail
    go_quiet (fail)
    go_wp2_with fail
    go_roundw
    case rel=>exact⟨by first|exact⟨_,rfl⟩|(simp only[World.drewN_drewN];exact⟨_,rfl⟩),q,_,_,_,rfl,aL.out,aH,bu.out,au.out,HF.out⟩
    case measure=>exact aX.out
   have HF:Hid (ZE t p=none):=by
    show _=_;rw[HX.out,ZE,dif_pos ⟨by omega,by simpa using av⟩,dif_neg (by simpa using hy)]
   have i2:k<0\/(0<=k/\(t'.kids[i'].kids.length:Int)<=k):=by omega
   clear aF aG h6 h7 HX aK aU aI hy;rcases i2 with i2|⟨i2,i3⟩
   ·have j4:decide (k<0)=true:=decide_eq_true i2
    go_wp2_with fail
    go_quiet (fail)
    go_wp2_with fail
    refine bodyPost_ret (v:=.tuple #[.pointer none,.bool false]) (by simp[results,Tryz.results113,go_sem]) rfl ?_;exact⟨by first|exact⟨_,rfl⟩|(simp only[World.drewN_drewN];exact⟨_,rfl⟩),.inl ⟨HF.out,_,rfl⟩⟩
   have j4:decide (k<0)=false:=by simp;omega
   have j5:decide ((t'.kids[i'].kids.length:Int)<=k)=true:=decide_eq_true i3
   go_wp2_with fail
   go_quiet (fail)
   go_wp2_with fail
   refine bodyPost_ret (v:=.tuple #[.pointer none,.bool false]) (by simp[results,Tryz.results113,go_sem]) rfl ?_;exact⟨by first|exact⟨_,rfl⟩|(simp only[World.drewN_drewN];exact⟨_,rfl⟩),.inl ⟨HF.out,_,rfl⟩⟩
  have HF:Hid (ZE t p=none):=by show _=_;rw[HX.out,ZE,dif_neg hx]
  have i2:i<0\/(0<=i/\(t'.kids.length:Int)<=i):=by omega
  clear h6 h7 HX aK hx;rcases i2 with i2|⟨i2,i3⟩
  ·have j4:decide (i<0)=true:=decide_eq_true i2
   go_wp2_with fail
   go_quiet (fail)
   go_wp2_with fail
   refine bodyPost_ret (v:=.tuple #[.pointer none,.bool false]) (by simp[results,Tryz.results113,go_sem]) rfl ?_;exact⟨by first|exact⟨_,rfl⟩|(simp only[World.drewN_drewN];exact⟨_,rfl⟩),.inl ⟨HF.out,_,rfl⟩⟩
  have j4:decide (i<0)=false:=by simp;omega
  have j5:decide ((t'.kids.length:Int)<=i)=true:=decide_eq_true i3
  go_wp2_with fail
  go_quiet (fail)
  go_wp2_with fail
  refine bodyPost_ret (v:=.tuple #[.pointer none,.bool false]) (by simp[results,Tryz.results113,go_sem]) rfl ?_;exact⟨by first|exact⟨_,rfl⟩|(simp only[World.drewN_drewN];exact⟨_,rfl⟩),.inl ⟨HF.out,_,rfl⟩⟩
