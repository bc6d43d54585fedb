/- T -/
import Derived.Test.YthpngeboknmllaaGreatQf786
set_option linter.unusedVariables false
set_option linter.unusedSimpArgs false
set_option maxHeartbeats 4000000
set_option maxRecDepth 100000
namespace Go.Proofs.YthpngeboknmllaaGreat
open Go.RowKit
theorem zJ7 {w:World} {S:Nat->Prop}:(t:Z9)->(p:List Int)->(t':Z9)->ZG t p=some t'->Zt t->(∃v,Z8 Z7 w S t.kids v)->Zt t'/\ZW t'<=ZW t
 |
  t,[],t',h,hok,_=>by
  simp[ZG] at h;subst h;exact⟨hok,QT _⟩
 |t,[_],t',h,_,_=>by simp[ZG] at h
 |
  t,i::k::p,t',h,hok,hv=>by
  rw[ZG] at h;split at h
  ·rename_i hi;split at h
   ·rename_i hk;obtain⟨v,A,cap,cs,rfl,_,_,_,hl⟩:=hv;obtain⟨c,_,hR,_⟩:=hl.at_ hi.2;obtain⟨v1,rfl,a1,a2,a3,ae⟩:=YI.1 hR;obtain⟨A1,ah,cs1,rfl,_,_,_,af⟩:=ae;obtain⟨c1,_,ag,_⟩:=af.at_ hk.2;obtain⟨v2,rfl,b1,b2,b3,aa⟩:=YI.1 ag;obtain⟨q1,q2⟩:=zJ7 (w:=w) (S:=S) _ p t' h ⟨b1,b2,b3⟩ ⟨v2,aa⟩;refine⟨q1,?_⟩;have e1:ZW t.kids[i.toNat]<=ZW t:=by
     rw[XG t];have:=WV hi.2;have:=Xy t.kids (i.toNat+1);omega
    have e2:ZW t.kids[i.toNat].kids[k.toNat]<=ZW t.kids[i.toNat]:=by
     rw[XG t.kids[i.toNat]];have:=WV hk.2;have:=Xy t.kids[i.toNat].kids (k.toNat+1);omega
    omega
   cases h
  cases h
def XC (w:World) (x:Z9) (er:Int) (e:Ending) (w':World):Prop :=
 ∃v,e=.returned (.tuple #[.agg #[.int .i64 x.kind,.string x.text,.int .i64 x.cols,v],.int .i64 er])/\Z8 Z7 w' (fun k=>w.heap.size<=k/\k<w'.heap.size) x.kids v/\Below w.heap.size w w'
theorem zKi (t:Z9) (p:List Int) (A Ap:Option Addr) (cap cp:Nat) (w:World) (hv:Z8 Z7 w (Lt w.heap.size) t.kids (.slice A t.kids.length cap)) (aD:Zt t) (bi:ZW t<=900000) (hp:Z0 w (Lt w.heap.size) p (.slice Ap p.length cp)) :
  Calls Tryz.prog 83 #[.agg #[.int .i64 t.kind,.string t.text,.int .i64 t.cols,.slice A t.kids.length cap],.slice Ap p.length cp] w (XC w (ZR t p).1 (ZR t p).2):=by
 have C1:Hid (∀W,Below w.heap.size w W->Calls Tryz.prog 53 #[.agg #[.int .i64 t.kind,.string t.text,.int .i64 t.cols,.slice A t.kids.length cap]] W fun e w'=>e=.returned (.bool (ZN t))/\Below W.heap.size W w'):=fun W hW=>UN t A cap W (hv.below hW hW.size) aD.2.2
 have C2:Hid (∀W,Below w.heap.size w W->W.cell? ⟨w.heap.size,0,none⟩=some (.int .i64 t.kind)/\W.cell? ⟨w.heap.size,1,none⟩=some (.string t.text)/\W.cell? ⟨w.heap.size,2,none⟩=some (.int .i64 t.cols)/\W.cell? ⟨w.heap.size,3,none⟩=some (.slice A t.kids.length cap)->w.heap.size<W.heap.size ->
   Calls Tryz.prog 113 #[.pointer (some ⟨w.heap.size,0,none⟩),.slice Ap p.length cp] W (UW W (ZG t p))):=fun W hW hc hz=>by
  obtain⟨_,_,rs,hq,h1,h2,h3,h4⟩:=hv.below hW hW.size;cases hq;exact zG0 t p w.heap.size 0 A cap rs _ W ⟨by simpa using hc,hz,aD.2.2,h1,h2,h3,h4⟩ (hp.below hW hW.size)
 have C3:Hid (∀t',ZG t p=some t'->Zt t'/\ZW t'<=1000000):=fun t' h=>by
  obtain⟨h1,h2⟩:=zJ7 t p t' h aD ⟨_,hv⟩;exact⟨h1,by omega⟩
 have HR:Hid (ZR t p=if ZN t=false then (ZJ,(1:Int)) else match ZG t p with|none=>(ZJ,(8:Int))|some x=>(x,(0:Int))):=by
  show ZR t p=_;rw[ZR,SQ];cases ZN t<;>cases (ZM t p).2<;>simp
 generalize ZR t p=r at *;generalize ZG t p=f at *;generalize ZN t=b1 at *;obtain⟨tk,tx,tc,ts⟩:=t;obtain⟨⟨rk,rx,rc,rt⟩,re⟩:=r;simp only[Z9.kind,Z9.text,Z9.cols,Z9.kids] at *;clear hv aD bi hp;generalize aJ:(w.alloc (Obj.cells #[.int .i64 tk,.string tx,.int .i64 tc,.slice A ts.length cap] 24)).alloc (.cells #[.int .i64 0,.string ⟨#[]⟩,.int .i64 0,.slice none 0 0] 24)=W0;have KB:Hid (∀W,Below W0.heap.size W0 W->(W.cell? ⟨w.heap.size,0,none⟩=some (.int .i64 tk)/\W.cell? ⟨w.heap.size,1,none⟩=some (.string tx)/\W.cell? ⟨w.heap.size,2,none⟩=some (.int .i64 tc)/\W.cell? ⟨w.heap.size,3,none⟩=some (.slice A ts.length cap)) /\
   (W.cell? ⟨w.heap.size+1,0,none⟩=some (.int .i64 0)/\W.cell? ⟨w.heap.size+1,1,none⟩=some (.string ⟨#[]⟩)/\W.cell? ⟨w.heap.size+1,2,none⟩=some (.int .i64 0)/\W.cell? ⟨w.heap.size+1,3,none⟩=some (.slice none 0 0)) /\
   (W.frozen? ⟨w.heap.size+1,0,none⟩=false/\W.frozen? ⟨w.heap.size+1,1,none⟩=false/\W.frozen? ⟨w.heap.size+1,2,none⟩=false/\W.frozen? ⟨w.heap.size+1,3,none⟩=false)/\Below w.heap.size w W/\w.heap.size+1<W.heap.size):=by
  intro W hW;have hz:W0.heap.size=w.heap.size+1+1:=by rw[<-aJ];simp
  have hc:=(bcell hW).1;have hf:=(bcell hW).2;have aT:Below w.heap.size w W0:=by rw[<-aJ];exact WU (XP _ _) _
  refine⟨⟨(hc _ _ (by omega)).trans ?_,(hc _ _ (by omega)).trans ?_,(hc _ _ (by omega)).trans ?_,(hc _ _ (by omega)).trans ?_⟩,⟨(hc _ _ (by omega)).trans ?_,(hc _ _ (by omega)).trans ?_,(hc _ _ (by omega)).trans ?_,(hc _ _ (by omega)).trans ?_⟩,⟨(hf _ _ (by omega)).trans ?_,(hf _ _ (by omega)).trans ?_,(hf _ _ (by omega)).trans ?_,(hf _ _ (by omega)).trans ?_⟩,aT.trans (hW.mono aT.size),by have:=hW.size;omega⟩
  all_goals (rw[<-aJ];first|exact XZ _ _ _ _ _ _ rfl|exact Zc _ _ _ _ _ (by simp)|exact YY _ _ _ _ _ (by simp))
 rcases b1 with _|_
 ·clear C2 C3;obtain⟨⟨m0,m1,m2,m3⟩,⟨c0,c1,c2,c3⟩,⟨f0,f1,f2,f3⟩,ae,ax⟩:=KB.out W0 (QQ _ _);have aj:=hid ae;clear ae;go_enter Tryz.func83,Tryz.ntmps83
  go_wp2_with fail
  refine(C1.out _ aj.out).mono ?_;rintro e w1 ⟨rfl,ah⟩;clear m0 m1 m2 m3 c0 c1 c2 c3 f0 f1 f2 f3 ax;obtain⟨⟨m0,m1,m2,m3⟩,ay,⟨f0,f1,f2,f3⟩,aa,aC⟩:=KB.out w1 ah;have af:=hid ah;have ai:=hid aa;obtain⟨c0,c1,c2,c3⟩:=ay;have av:=hid (QS c0 (QS c1 (QS c2 c3)));clear ah aa
  go_wp2_with fail
  generalize hW:(((w1.setCell _ (.int .i64 0)).setCell _ (.string ⟨#[]⟩)).setCell _ (.int .i64 0)).setCell _ (.slice none 0 0)=W;obtain⟨⟨r0,r1,r2,r3⟩,rz,rb,ro,_⟩:=four av.out.1 av.out.2.1 av.out.2.2.1 av.out.2.2.2 _ _ _ _ hW.symm;have aB:=hid (rb w.heap.size w (by omega) ai.out);have aK:Hid (∀q:Addr,q.block≠w.heap.size+1->W.cell? q=(w1).cell? q):=ro;clear hW ro rb;refine bodyPost_ret (v:=.tuple #[.agg #[.int .i64 0,.string ⟨#[]⟩,.int .i64 0,.slice none 0 0],.int .i64 1]) (by simp[results,Tryz.results83,go_sem,r0,r1,r2,r3]) rfl ?_;have h:=HR.out;simp[ZJ] at h;obtain⟨⟨h1,h2,h3,h4⟩,h5⟩:=h;refine⟨.slice none 0 0,by rw[h5];simp only[h1,h2,h3];rfl,by simp only[h4];exact Z8.nil_ 0 (QU _) none,aB.out⟩
 rcases f with _|t'
 ·obtain⟨⟨m0,m1,m2,m3⟩,⟨c0,c1,c2,c3⟩,⟨f0,f1,f2,f3⟩,ae,ax⟩:=KB.out W0 (QQ _ _);have aj:=hid ae;clear ae;go_enter Tryz.func83,Tryz.ntmps83
  go_wp2_with fail
  refine(C1.out _ aj.out).mono ?_;rintro e w1 ⟨rfl,ah⟩;clear m0 m1 m2 m3 c0 c1 c2 c3 f0 f1 f2 f3 ax;obtain⟨⟨m0,m1,m2,m3⟩,ay,⟨f0,f1,f2,f3⟩,aa,aC⟩:=KB.out w1 ah;have af:=hid ah;have ai:=hid aa;obtain⟨c0,c1,c2,c3⟩:=ay;have av:=hid (QS c0 (QS c1 (QS c2 c3)));clear ah aa
  go_wp2_with fail
  refine(C2.out _ ai.out ⟨m0,m1,m2,m3⟩ (by omega)).mono ?_;rintro e w2 ⟨⟨n2,rfl⟩,⟨_,q2,rfl⟩|⟨t',g,o,A',cap',rs,h,_⟩⟩
  case inr=>cases h
  obtain⟨w2,ag⟩:∃w2,w2=w1.drewN n2:=⟨_,rfl⟩;rw[<-ag];have au:Below w1.heap.size w1 w2:=by rw[ag];exact XE (QQ _ _) n2
  clear m0 m1 m2 m3 c0 c1 c2 c3 f0 f1 f2 f3 ag aC;have ak:=hid (af.out.trans (au.mono af.out.size));obtain⟨⟨m0,m1,m2,m3⟩,aY,⟨f0,f1,f2,f3⟩,aA,hz2⟩:=KB.out w2 ak.out;have aM:=hid aA;obtain⟨c0,c1,c2,c3⟩:=aY;have aG:=hid (QS c0 (QS c1 (QS c2 c3)));clear au aA
  go_wp2_with fail
  generalize hW:(((w2.setCell _ (.int .i64 0)).setCell _ (.string ⟨#[]⟩)).setCell _ (.int .i64 0)).setCell _ (.slice none 0 0)=W;obtain⟨⟨r0,r1,r2,r3⟩,rz,rb,ro,_⟩:=four aG.out.1 aG.out.2.1 aG.out.2.2.1 aG.out.2.2.2 _ _ _ _ hW.symm;have aB:=hid (rb w.heap.size w (by omega) aM.out);have aK:Hid (∀q:Addr,q.block≠w.heap.size+1->W.cell? q=w2.cell? q):=ro;clear hW ro rb;refine bodyPost_ret (v:=.tuple #[.agg #[.int .i64 0,.string ⟨#[]⟩,.int .i64 0,.slice none 0 0],.int .i64 8]) (by simp[results,Tryz.results83,go_sem,r0,r1,r2,r3]) rfl ?_;have h:=HR.out;simp[ZJ] at h;obtain⟨⟨h1,h2,h3,h4⟩,h5⟩:=h;refine⟨.slice none 0 0,by rw[h5];simp only[h1,h2,h3];rfl,by simp only[h4];exact Z8.nil_ 0 (QU _) none,aB.out⟩
 obtain⟨⟨m0,m1,m2,m3⟩,⟨c0,c1,c2,c3⟩,⟨f0,f1,f2,f3⟩,ae,ax⟩:=KB.out W0 (QQ _ _);have aj:=hid ae;clear ae;go_enter Tryz.func83,Tryz.ntmps83
 go_wp2_with fail
 refine(C1.out _ aj.out).mono ?_;rintro e w1 ⟨rfl,ah⟩;clear m0 m1 m2 m3 c0 c1 c2 c3 f0 f1 f2 f3 ax;obtain⟨⟨m0,m1,m2,m3⟩,ay,⟨f0,f1,f2,f3⟩,aa,aC⟩:=KB.out w1 ah;have af:=hid ah;have ai:=hid aa;obtain⟨c0,c1,c2,c3⟩:=ay;have av:=hid (QS c0 (QS c1 (QS c2 c3)));clear ah aa
 go_wp2_with fail
 refine(C2.out _ ai.out ⟨m0,m1,m2,m3⟩ (by omega)).mono ?_;rintro e w2 ⟨⟨n2,rfl⟩,⟨h,_⟩|⟨t'',g,o,A',cap',rs,h,rfl,⟨d0,d1,d2,d3⟩,bg,aX,aS,aR,aQ,aP⟩⟩
 case inl=>cases h
 cases h;obtain⟨w2,ag⟩:∃w2,w2=w1.drewN n2:=⟨_,rfl⟩;rw[<-ag];have au:Below w1.heap.size w1 w2:=by rw[ag];exact XE (QQ _ _) n2
 have aO:Z8 Z7 w2 (Lt w2.heap.size) t'.kids (.slice A' t'.kids.length cap'):=Z8.below (B:=w1.heap.size) ⟨A',cap',rs,rfl,aS,aR,aQ,aP⟩ au au.size
 replace d0:w2.cell? ⟨g,o,none⟩=some (.int .i64 t'.kind):=by rw[ag];exact d0
 replace d1:w2.cell? ⟨g,o+1,none⟩=some (.string t'.text):=by rw[ag];exact d1
 replace d2:w2.cell? ⟨g,o+2,none⟩=some (.int .i64 t'.cols):=by rw[ag];exact d2
 replace d3:w2.cell? ⟨g,o+3,none⟩=some (.slice A' t'.kids.length cap'):=by rw[ag];exact d3
 clear m0 m1 m2 m3 c0 c1 c2 c3 f0 f1 f2 f3 ag aC aS aR aQ aP bg aX;have ak:=hid (af.out.trans (au.mono af.out.size));clear au
 go_wp2_with fail
 refine(Re t' A' cap' w2 aO (C3.out _ rfl).1 (C3.out _ rfl).2).mono ?_;intro e w3 h3;obtain⟨v3,rfl,aI,aU⟩:=h3;obtain⟨A3,aV,rfl⟩:=aI.form;have bn:=hid aI;have aN:=hid (ak.out.trans (aU.mono ak.out.size));obtain⟨aZ,aH,⟨f0,f1,f2,f3⟩,az,hz3⟩:=KB.out w3 aN.out;have aL:=hid az;obtain⟨c0,c1,c2,c3⟩:=aH;have aF:=hid (QS c0 (QS c1 (QS c2 c3)));have aW:Hid (w.heap.size+1<w2.heap.size):=by obtain⟨_,_,_,_,h⟩:=KB.out w2 ak.out;exact h
 clear aU az aZ aI d0 d1 d2 d3 aO
 go_wp2_with fail
 generalize hW:(((w3.setCell _ (.int .i64 t'.kind)).setCell _ (.string t'.text)).setCell _ (.int .i64 t'.cols)).setCell _ (.slice A3 t'.kids.length aV)=W;obtain⟨⟨r0,r1,r2,r3⟩,rz,rb,ro,_⟩:=four aF.out.1 aF.out.2.1 aF.out.2.2.1 aF.out.2.2.2 _ _ _ _ hW.symm;have aB:=hid (rb w.heap.size w (by omega) aL.out);have aK:Hid (∀q:Addr,q.block≠w.heap.size+1->W.cell? q=w3.cell? q):=ro;clear hW ro rb;refine bodyPost_ret (v:=.tuple #[.agg #[.int .i64 t'.kind,.string t'.text,.int .i64 t'.cols,.slice A3 t'.kids.length aV],.int .i64 0]) (by simp[results,Tryz.results83,go_sem,r0,r1,r2,r3]) rfl ?_;have h:=HR.out;simp at h;obtain⟨rfl,rfl⟩:=h;refine⟨_,rfl,bn.out.keep (fun q hq=>aK.out q (Nat.ne_of_gt (QV aW.out hq.1))) (fun q hq=>⟨by have:=aW.out;omega,by rw[rz];exact hq.2⟩),aB.out⟩
def WT (t:Z9) (p:List Int) (l:List Z9):Z9×Int :=
 if ZN t=false then (ZJ,1) else if (ZM t p).2=false then (ZJ,8) else if ZN (Z6 l)=false then (ZJ,4) else if ZN (ZV t p l)=false then (ZJ,6) else (ZV t p l,0)
def FB (W:World) (b:Nat) (x0 x1 x2 x3:Value):Prop:=(W.cell? ⟨b,0,none⟩=some x0/\W.cell? ⟨b,1,none⟩=some x1/\W.cell? ⟨b,2,none⟩=some x2/\W.cell? ⟨b,3,none⟩=some x3)/\(W.frozen? ⟨b,0,none⟩=false/\W.frozen? ⟨b,1,none⟩=false/\W.frozen? ⟨b,2,none⟩=false/\W.frozen? ⟨b,3,none⟩=false)
theorem FB.new (w:World) (x0 x1 x2 x3:Value) (T:TypeId) {b:Nat} (hb:b=w.heap.size):FB (w.alloc (.cells #[x0,x1,x2,x3] T)) b x0 x1 x2 x3:=by
 subst hb;exact⟨⟨ZU _ _ _ _ _ rfl,ZU _ _ _ _ _ rfl,ZU _ _ _ _ _ rfl,ZU _ _ _ _ _ rfl⟩,XI _ _ _ _ _ rfl,XI _ _ _ _ _ rfl,XI _ _ _ _ _ rfl,XI _ _ _ _ _ rfl⟩
theorem FB.below {W W':World} {B b:Nat} {x0 x1 x2 x3:Value} (h:FB W b x0 x1 x2 x3) (hb:Below B W W') (hB:b<B):FB W' b x0 x1 x2 x3 :=
 ⟨⟨(hb.cell (p:=⟨b,0,none⟩) hB).trans h.1.1,(hb.cell (p:=⟨b,1,none⟩) hB).trans h.1.2.1,(hb.cell (p:=⟨b,2,none⟩) hB).trans h.1.2.2.1,(hb.cell (p:=⟨b,3,none⟩) hB).trans h.1.2.2.2⟩,(hb.frozen (p:=⟨b,0,none⟩) hB).trans h.2.1,(hb.frozen (p:=⟨b,1,none⟩) hB).trans h.2.2.1,(hb.frozen (p:=⟨b,2,none⟩) hB).trans h.2.2.2.1,(hb.frozen (p:=⟨b,3,none⟩) hB).trans h.2.2.2.2⟩
theorem Xa.keepB {W W':World} {T:Nat->Prop} {B:Nat} (hb:Below B W W') (hT:∀k,T k->k<B) {g o g' o':Nat} {t:Z9} {p:List Nat} (hg:g<B) (h:Xa W T g o t p g' o'):Xa W' T g o t p g' o':=by
 induction h with
 |here g o t=>exact .here g o t
 |step g o t i p b x c hi g' o' h1 h2 h3 ih=>exact .step g o t i p b x c hi g' o' ((hb.cell (p:=⟨g,o+3,none⟩) hg).trans h1) h2 (ih (hT _ h2))
theorem We (t:Z9) (p:List Int) (l:List Z9) (A Ap Al:Option Addr) (cap cp cl:Nat) (w:World) (hv:Z8 Z7 w (Lt w.heap.size) t.kids (.slice A t.kids.length cap)) (au:Zt t) (dD:ZW t<=900000) (hp:Z0 w (Lt w.heap.size) p (.slice Ap p.length cp)) (hl:Z8 Z7 w (Lt w.heap.size) l (.slice Al l.length cl)) :
  Calls Tryz.prog 144 #[.agg #[.int .i64 t.kind,.string t.text,.int .i64 t.cols,.slice A t.kids.length cap],.slice Ap p.length cp,.agg #[.int .i64 1,.string ⟨#[]⟩,.int .i64 0,.slice Al l.length cl]] w (XC w (WT t p l).1 (WT t p l).2):=by
 have C1:Hid (∀W,Below w.heap.size w W->Calls Tryz.prog 53 #[.agg #[.int .i64 t.kind,.string t.text,.int .i64 t.cols,.slice A t.kids.length cap]] W fun e w'=>e=.returned (.bool (ZN t))/\Below W.heap.size W w'):=fun W hW=>UN t A cap W (hv.below hW hW.size) au.2.2
 have C2:Hid (∀W,Below w.heap.size w W->Calls Tryz.prog 95 #[.agg #[.int .i64 t.kind,.string t.text,.int .i64 t.cols,.slice A t.kids.length cap]] W (Tp W t)):=fun W hW=>zDt t A cap W (hv.below hW hW.size) au (by omega)
 have C3:Hid (∀W T B,Below w.heap.size w W->(∀k,T k->k<W.heap.size)->B<W.heap.size->YA W T B 0 t->Calls Tryz.prog 113 #[.pointer (some ⟨B,0,none⟩),.slice Ap p.length cp] W (Tq W T B 0 t p)):=fun W T B hW hT hB hN=>zKh t p B 0 _ W T hT hB hN (hp.below hW hW.size)
 have C4:Hid (∀W,Below w.heap.size w W->Calls Tryz.prog 53 #[.agg #[.int .i64 1,.string ⟨#[]⟩,.int .i64 0,.slice Al l.length cl]] W fun e w'=>e=.returned (.bool (ZN (Z6 l)))/\Below W.heap.size W w'):=fun W hW=>UN (Z6 l) Al cl W (hl.below hW hW.size) (Rn l).2.2
 have C5:Hid (ZN (Z6 l)=true->∀W,Below w.heap.size w W->Calls Tryz.prog 95 #[.agg #[.int .i64 1,.string ⟨#[]⟩,.int .i64 0,.slice Al l.length cl]] W fun e w'=>∃v,e=.returned (.agg #[.int .i64 1,.string ⟨#[]⟩,.int .i64 0,v])/\Z8 Z7 w' (fun k=>W.heap.size<=k/\k<w'.heap.size) l v/\Below W.heap.size W w'):=fun h9 W hW=>Re (Z6 l) Al cl W (hl.below hW hW.size) (Rn l) (by have:=(X0 h9).1;omega)
 have C6:Hid (∀W A' c',Z8 Z7 W (Lt W.heap.size) (ZV t p l).kids (.slice A' (ZV t p l).kids.length c')->Calls Tryz.prog 53 #[.agg #[.int .i64 (ZV t p l).kind,.string (ZV t p l).text,.int .i64 (ZV t p l).cols,.slice A' (ZV t p l).kids.length c']] W fun e w'=>e=.returned (.bool (ZN (ZV t p l)))/\Below W.heap.size W w'):=fun W A' c' h=>UN (ZV t p l) A' c' W h (zKc t p l au).2.2
 have HR:Hid (WT t p l=if ZN t=false then (ZJ,1) else if (ZM t p).2=false then (ZJ,8) else if ZN (Z6 l)=false then (ZJ,4) else if ZN (ZV t p l)=false then (ZJ,6) else (ZV t p l,0)):=rfl;have bM:=hid (SQ t p);have dM:=hid au;generalize WT t p l=RES at *;generalize dE:ZN t=bv at *;generalize dF:ZN (Z6 l)=br at *;generalize dG:ZN (ZV t p l)=bp at *;clear hv dD hp hl dE dF dG au;obtain⟨W0,aj⟩:∃W0,((w.alloc (Obj.cells #[.int .i64 t.kind,.string t.text,.int .i64 t.cols,.slice A t.kids.length cap] 24)).alloc (Obj.cells #[.int .i64 1,.string ⟨#[]⟩,.int .i64 0,.slice Al l.length cl] 24)).alloc (.cells #[.int .i64 0,.string ⟨#[]⟩,.int .i64 0,.slice none 0 0] 24)=W0:=⟨_,rfl⟩;have bJ:Hid (W0.heap.size=w.heap.size+1+1+1):=by show _=_;rw[<-aj];simp
 have KB:Hid (∀W,Below W0.heap.size W0 W->FB W w.heap.size (.int .i64 t.kind) (.string t.text) (.int .i64 t.cols) (.slice A t.kids.length cap)/\FB W (w.heap.size+1) (.int .i64 1) (.string ⟨#[]⟩) (.int .i64 0) (.slice Al l.length cl)/\FB W (w.heap.size+1+1) (.int .i64 0) (.string ⟨#[]⟩) (.int .i64 0) (.slice none 0 0)/\Below w.heap.size w W/\w.heap.size+3<=W.heap.size):=by
  intro W hW;have hz:W0.heap.size=w.heap.size+1+1+1:=by rw[<-aj];simp
  refine⟨FB.below (B:=W0.heap.size) ?_ hW (by omega),FB.below (B:=W0.heap.size) ?_ hW (by omega),FB.below (B:=W0.heap.size) ?_ hW (by omega),Below.trans ?_ (hW.mono (by omega)),by have:=hW.size;omega⟩
  ·rw[<-aj];exact((FB.new w _ _ _ _ _ rfl).below (ZX _ _) (by simp)).below (ZX _ _) (by simp;omega)
  ·rw[<-aj];exact(FB.new _ _ _ _ _ _ (by simp)).below (ZX _ _) (by simp)
  ·rw[<-aj];exact FB.new _ _ _ _ _ _ (by simp)
  rw[<-aj];exact Zq (Zq (ZX _ _) _) _
 obtain⟨⟨⟨m0,m1,m2,m3⟩,_⟩,⟨⟨n0,n1,n2,n3⟩,_⟩,⟨⟨c0,c1,c2,c3⟩,⟨f0,f1,f2,f3⟩⟩,aH,dz⟩:=KB.out W0 (QQ _ _);have bQ:=hid aH;clear aH;go_enter Tryz.func144,Tryz.ntmps144
 go_wp2_with fail
 refine(C1.out _ bQ.out).mono ?_;rintro e w1 ⟨rfl,bz⟩;clear m0 m1 m2 m3 n0 n1 n2 n3 c0 c1 c2 c3 f0 f1 f2 f3 dz;have aO:=hid bz;obtain⟨⟨⟨m0,m1,m2,m3⟩,_⟩,⟨⟨n0,n1,n2,n3⟩,_⟩,⟨⟨c0,c1,c2,c3⟩,⟨f0,f1,f2,f3⟩⟩,aG,hz1⟩:=KB.out w1 bz;have aN:=hid aG;clear bz aG;cases bv
 ·have HC:=hid (QS c0 (QS c1 (QS c2 c3)))
  go_wp2_with fail
  generalize hW:(((w1.setCell _ (.int .i64 0)).setCell _ (.string ⟨#[]⟩)).setCell _ (.int .i64 0)).setCell _ (.slice none 0 0)=W;obtain⟨⟨r0,r1,r2,r3⟩,rz,rb,ro,_⟩:=four HC.out.1 HC.out.2.1 HC.out.2.2.1 HC.out.2.2.2 _ _ _ _ hW.symm;have aa:=hid (rb w.heap.size w (by omega) aN.out);clear hW ro rb;refine bodyPost_ret (v:=.tuple #[.agg #[.int .i64 0,.string ⟨#[]⟩,.int .i64 0,.slice none 0 0],.int .i64 1]) (by simp[results,Tryz.results144,go_sem,r0,r1,r2,r3]) rfl ?_;rw[HR.out];exact⟨_,rfl,Z8.nil_ 0 (QU _) none,aa.out⟩
 go_wp2_with fail
 refine(C2.out _ aN.out).mono ?_;rintro e w2 ⟨v,T,rfl,aR,hT,aY,ax,af,_⟩;obtain⟨A4,c4,rfl⟩:=aY.form;obtain⟨W3,aI⟩:∃W3,w2.alloc (Obj.cells #[.int .i64 t.kind,.string t.text,.int .i64 t.cols,.slice A4 t.kids.length c4] 24)=W3:=⟨_,rfl⟩;have ai:Below w2.heap.size w2 W3:=by rw[<-aI];exact ZX _ _
 have bI:Hid (Below W0.heap.size W0 W3):=aO.out.trans ((aR.trans (ai.mono aR.size)).mono aO.out.size);have ah:∀k,T k->k<W3.heap.size:=fun k hk=>QV (hT k hk).2 ai.size
 have cO:¬T w2.heap.size:=fun h=>absurd (hT _ h).2 (Nat.lt_irrefl _)
 have ak:FB W3 w2.heap.size (.int .i64 t.kind) (.string t.text) (.int .i64 t.cols) (.slice A4 t.kids.length c4):=by rw[<-aI];exact FB.new _ _ _ _ _ _ rfl
 have bC:YA W3 T w2.heap.size 0 t:=⟨_,⟨ak.1.1,ak.1.2.1,ak.1.2.2.1,ak.1.2.2.2⟩,dM.out,aY.keep (fun q hq=>ai.cell (hT _ hq).2) (fun _ h=>h)⟩;have aS:w2.heap.size<W3.heap.size:=Y2 ak.1.1;have h02:W0.heap.size<=w2.heap.size:=QP aO.out.size aR.size;have KC:Hid (∀W,Below W3.heap.size W3 W->Xh W T/\(∀k,T k->k<W.heap.size)/\YA W T w2.heap.size 0 t):=fun W hW=>by
  obtain⟨u,aW,aV,aU⟩:=bC;exact⟨(ax.keep (fun q hq=>ai.cell (hT _ hq).2)).keep (fun q hq=>hW.cell (ah _ hq)),fun k hk=>QV (ah k hk) hW.size,u,aW.keep (fun j _=>hW.cell (p:=⟨w2.heap.size,_,none⟩) aS),aV,aU.keep (fun q hq=>hW.cell (ah _ hq)) (fun _ h=>h)⟩
 have KF:Hid (∀W g o t',Below W3.heap.size W3 W->YA W3 T g o t'->Xa W3 T w2.heap.size 0 t (p.map Int.toNat) g o->YA W T g o t'/\Xa W T w2.heap.size 0 t (p.map Int.toNat) g o/\(∀j,W.frozen? ⟨g,j,none⟩=false)/\W0.heap.size<=g/\g<W3.heap.size):=fun W g o t' hW hN hL=>by
  have hg:(g=w2.heap.size/\∀j,W3.frozen? ⟨g,j,none⟩=false)\/T g:=by
   rcases hL.where_ with ⟨_,h,_⟩|h
   ·exact .inl ⟨h,fun j=>by rw[h,<-aI];exact XI _ _ _ _ _ rfl⟩
   exact .inr h.mem
  have aQ:g<W3.heap.size:=hg.elim (fun h=>by rw[h.1];exact aS) (fun h=>ah _ h);obtain⟨u,aW,aV,aU⟩:=hN;refine⟨⟨u,aW.keep (fun j _=>hW.cell (p:=⟨g,_,none⟩) aQ),aV,aU.keep (fun q hq=>hW.cell (ah _ hq)) (fun _ h=>h)⟩,Xa.keepB hW ah aS hL,fun j=>(hW.frozen (p:=⟨g,j,none⟩) aQ).trans ?_,?_,aQ⟩
  ·rcases hg with ⟨_,h⟩|h
   ·exact h j
   exact(ai.frozen (p:=⟨g,j,none⟩) (hT _ h).2).trans (af g h j)
  rcases hg with ⟨h,_⟩|h
  ·omega
  exact QP aO.out.size (hT _ h).1
 have dh:=hid ah;have dR:=hid cO;have dJ:Hid (∀k,T k->w1.heap.size<=k):=fun k hk=>(hT k hk).1
 have HTW:Hid (∀k,T k->k<w2.heap.size):=fun k hk=>(hT k hk).2
 have dN:=hid bC;clear m0 m1 m2 m3 n0 n1 n2 n3 c0 c1 c2 c3 f0 f1 f2 f3 aR aY ax af ai ak bC hT ah cO;obtain⟨⟨⟨m0,m1,m2,m3⟩,_⟩,⟨⟨n0,n1,n2,n3⟩,_⟩,⟨⟨c0,c1,c2,c3⟩,⟨f0,f1,f2,f3⟩⟩,aF,hz3⟩:=KB.out W3 bI.out;have bP:=hid aF;clear aF
 go_upto_region 4 with fail
 try rw[aI]
 clear aI
 go_wp2_with fail
 refine(C3.out W3 T w2.heap.size bP.out dh.out aS dN.out).mono ?_;rintro e w4 ⟨⟨nd,bW⟩,az⟩;have bu:Below W3.heap.size W3 w4:=by rw[bW];exact TM (QQ _ _)
 have dx:=hid bu;have bH:=hid (bI.out.trans (bu.mono bI.out.size));clear m0 m1 m2 m3 n0 n1 n2 n3 c0 c1 c2 c3 f0 f1 f2 f3;obtain⟨⟨⟨m0,m1,m2,m3⟩,_⟩,⟨⟨n0,n1,n2,n3⟩,_⟩,⟨⟨c0,c1,c2,c3⟩,⟨f0,f1,f2,f3⟩⟩,aD,hz4⟩:=KB.out w4 bH.out;have aM:=hid aD;clear bu aD bW;rcases az with ⟨dB,q,rfl⟩|⟨t',g,o,bY,rfl,cK,av⟩
 ·have HF:Hid ((ZM t p).2=false):=by
   have h:=bM.out;rw[dB] at h;cases hf:(ZM t p).2
   ·exact rfl
   rw[hf] at h;simp at h
  rw[if_neg (by simp),if_pos HF.out] at HR;have HC:=hid (QS c0 (QS c1 (QS c2 c3)))
  go_wp2_with fail
  generalize hW:(((w4.setCell _ (.int .i64 0)).setCell _ (.string ⟨#[]⟩)).setCell _ (.int .i64 0)).setCell _ (.slice none 0 0)=W;obtain⟨⟨r0,r1,r2,r3⟩,rz,rb,ro,_⟩:=four HC.out.1 HC.out.2.1 HC.out.2.2.1 HC.out.2.2.2 _ _ _ _ hW.symm;have aa:=hid (rb w.heap.size w (by omega) aM.out);clear hW ro rb;refine bodyPost_ret (v:=.tuple #[.agg #[.int .i64 0,.string ⟨#[]⟩,.int .i64 0,.slice none 0 0],.int .i64 8]) (by simp[results,Tryz.results144,go_sem,r0,r1,r2,r3]) rfl ?_;rw[HR.out];exact⟨_,rfl,Z8.nil_ 0 (QU _) none,aa.out⟩
 have HF:Hid ((ZM t p).2=true):=by
  have h:=bM.out;rw[bY] at h;cases hf:(ZM t p).2
  ·rw[hf] at h;simp at h
  exact rfl
 rw[if_neg (by simp),if_neg (by rw[HF.out];simp)] at HR;have dO:=hid cK;have bL:=hid av;clear cK av bY bM
 go_wp2_with fail
 refine(C4.out _ aM.out).mono ?_;rintro e w5 ⟨rfl,bn⟩;have bR:=hid (dx.out.trans (bn.mono dx.out.size));have aT:=hid (bH.out.trans (bn.mono bH.out.size));clear m0 m1 m2 m3 n0 n1 n2 n3 c0 c1 c2 c3 f0 f1 f2 f3;obtain⟨⟨⟨m0,m1,m2,m3⟩,_⟩,⟨⟨n0,n1,n2,n3⟩,_⟩,⟨⟨c0,c1,c2,c3⟩,⟨f0,f1,f2,f3⟩⟩,aC,hz5⟩:=KB.out w5 aT.out;have aL:=hid aC;clear bn aC;cases br
 ·rw[if_pos rfl] at HR;have HC:=hid (QS c0 (QS c1 (QS c2 c3)))
  go_wp2_with fail
  generalize hW:(((w5.setCell _ (.int .i64 0)).setCell _ (.string ⟨#[]⟩)).setCell _ (.int .i64 0)).setCell _ (.slice none 0 0)=W;obtain⟨⟨r0,r1,r2,r3⟩,rz,rb,ro,_⟩:=four HC.out.1 HC.out.2.1 HC.out.2.2.1 HC.out.2.2.2 _ _ _ _ hW.symm;have aa:=hid (rb w.heap.size w (by omega) aL.out);clear hW ro rb;refine bodyPost_ret (v:=.tuple #[.agg #[.int .i64 0,.string ⟨#[]⟩,.int .i64 0,.slice none 0 0],.int .i64 4]) (by simp[results,Tryz.results144,go_sem,r0,r1,r2,r3]) rfl ?_;rw[HR.out];exact⟨_,rfl,Z8.nil_ 0 (QU _) none,aa.out⟩
 rw[if_neg (by simp)] at HR
 go_wp2_with fail
 refine(C5.out (by trivial) _ aL.out).mono ?_;rintro e w6 ⟨v6,rfl,aX,bi⟩;have dw:=hid (bR.out.trans (bi.mono bR.out.size));have df:=hid (aT.out.trans (bi.mono aT.out.size));have dH:=bR.out.size;have dA:=aT.out.size;have dL:=hid aX;obtain⟨A6,c6,rfl⟩:=aX.form;clear bi aX;obtain⟨bZ,bA,cB⟩:=KC.out w6 dw.out;obtain⟨bB,ae,ay,dC,aQ⟩:=KF.out w6 g o t' dw.out dO.out bL.out;have z0:=ay o;have z1:=ay (o+1);have z2:=ay (o+2);have z3:=ay (o+3);obtain⟨u6,⟨d0,d1,d2,d3⟩,bU⟩:=bB;have bK:Hid (YA w6 T g o t'):=⟨u6,⟨d0,d1,d2,d3⟩,bU⟩;have dm:=hid (zPx (T':=fun k=>W0.heap.size<=k/\k<w6.heap.size) (W':=(((w6.setCell ⟨g,o,none⟩ (.int .i64 1)).setCell ⟨g,o+1,none⟩ (.string ⟨#[]⟩)).setCell ⟨g,o+2,none⟩ (.int .i64 0)).setCell ⟨g,o+3,none⟩ (.slice A6 l.length c6)) (l:=l) bZ bA dR.out cB HF.out ae bK.out dL.out (fun q hq=>⟨fun h=>by have:=dh.out q h;have:=hq.1;omega,by have:=hq.1;omega,hq.2⟩) (fun k hk=>⟨QP aO.out.size (dJ.out k hk),bA k hk⟩) (fun k hk=>⟨by have:=dA;have:=hk.1;omega,hk.2⟩) rfl);have bD:Hid (((((w6.setCell ⟨g,o,none⟩ (.int .i64 1)).setCell ⟨g,o+1,none⟩ (.string ⟨#[]⟩)).setCell ⟨g,o+2,none⟩ (.int .i64 0)).setCell ⟨g,o+3,none⟩ (.slice A6 l.length c6)).heap.size=w6.heap.size):=by show _=_;simp[World.setCell]
 obtain⟨_,_,cu,_,_,_⟩:=Xz d0 d1 d2 d3 (.int .i64 1) (.string ⟨#[]⟩) (.int .i64 0) (.slice A6 l.length c6) (W:=(((w6.setCell ⟨g,o,none⟩ (.int .i64 1)).setCell ⟨g,o+1,none⟩ (.string ⟨#[]⟩)).setCell ⟨g,o+2,none⟩ (.int .i64 0)).setCell ⟨g,o+3,none⟩ (.slice A6 l.length c6)) rfl;have bG:=hid (cu W0.heap.size W0 dC df.out);clear bZ bA cB ae ay bU cu dH;clear m0 m1 m2 m3 n0 n1 n2 n3 c0 c1 c2 c3 f0 f1 f2 f3;obtain⟨⟨⟨m0,m1,m2,m3⟩,_⟩,⟨⟨n0,n1,n2,n3⟩,_⟩,⟨⟨c0,c1,c2,c3⟩,⟨f0,f1,f2,f3⟩⟩,bg,hz6⟩:=KB.out w6 df.out;clear bg
 go_upto_region 10 with fail
 generalize (((w6.setCell ⟨g,o,none⟩ (.int .i64 1)).setCell ⟨g,o+1,none⟩ (.string ⟨#[]⟩)).setCell ⟨g,o+2,none⟩ (.int .i64 0)).setCell ⟨g,o+3,none⟩ (.slice A6 l.length c6)=W7 at *;obtain⟨vR,⟨e0,e1,e2,e3⟩,aZ,aP⟩:=dm.out;obtain⟨AR,cR,rfl⟩:=aP.form;simp only[Nat.zero_add] at e1 e2 e3
 try clear m0 m1 m2 m3 n0 n1 n2 n3 c0 c1 c2 c3 f0 f1 f2 f3
 obtain⟨⟨⟨m0,m1,m2,m3⟩,_⟩,⟨⟨n0,n1,n2,n3⟩,_⟩,⟨⟨c0,c1,c2,c3⟩,⟨f0,f1,f2,f3⟩⟩,aB,hz7⟩:=KB.out W7 bG.out;have dQ:=hid aB;have dK:=hid aP;have dP:=hid (C6.out W7 AR cR (aP.keep (fun _ _=>rfl) (fun k hk=>by unfold Lt;rw[bD.out];exact hk.2)));generalize ZV t p l=R at *;clear aB aP aZ z0 z1 z2 z3 d0 d1 d2 d3 dm C1 C2 C3 C4 C5 C6
 go_wp2_with fail
 refine dP.out.mono ?_;rintro e w8 ⟨rfl,ag⟩;have dI:=hid (bG.out.trans (ag.mono bG.out.size));have dn:=hid ag;clear m0 m1 m2 m3 n0 n1 n2 n3 c0 c1 c2 c3 f0 f1 f2 f3;obtain⟨⟨⟨m0,m1,m2,m3⟩,_⟩,⟨⟨n0,n1,n2,n3⟩,_⟩,⟨⟨c0,c1,c2,c3⟩,⟨f0,f1,f2,f3⟩⟩,aA,hz8⟩:=KB.out w8 dI.out;have aK:=hid aA;clear aA;cases bp
 ·rw[if_pos rfl] at HR;clear e0 e1 e2 e3 ag;have HC:=hid (QS c0 (QS c1 (QS c2 c3)))
  go_wp2_with fail
  generalize hW:(((w8.setCell _ (.int .i64 0)).setCell _ (.string ⟨#[]⟩)).setCell _ (.int .i64 0)).setCell _ (.slice none 0 0)=W;obtain⟨⟨r0,r1,r2,r3⟩,rz,rb,ro,_⟩:=four HC.out.1 HC.out.2.1 HC.out.2.2.1 HC.out.2.2.2 _ _ _ _ hW.symm;have aa:=hid (rb w.heap.size w (by omega) aK.out);clear hW ro rb;refine bodyPost_ret (v:=.tuple #[.agg #[.int .i64 0,.string ⟨#[]⟩,.int .i64 0,.slice none 0 0],.int .i64 6]) (by simp[results,Tryz.results144,go_sem,r0,r1,r2,r3]) rfl ?_;rw[HR.out];exact⟨_,rfl,Z8.nil_ 0 (QU _) none,aa.out⟩
 rw[if_neg (by simp)] at HR
 replace e0:=(ag.cell (p:=⟨w2.heap.size,0,none⟩) (Y2 e0)).trans e0
 replace e1:=(ag.cell (p:=⟨w2.heap.size,1,none⟩) (Y2 e1)).trans e1
 replace e2:=(ag.cell (p:=⟨w2.heap.size,2,none⟩) (Y2 e2)).trans e2
 replace e3:=(ag.cell (p:=⟨w2.heap.size,3,none⟩) (Y2 e3)).trans e3
 clear ag;have HC:=hid (QS c0 (QS c1 (QS c2 c3)));have aJ:W0.heap.size=w.heap.size+1+1+1:=bJ.out;have cZ:=hid aJ;clear aJ
 go_wp2_with fail
 generalize hW:(((w8.setCell _ (.int .i64 R.kind)).setCell _ (.string R.text)).setCell _ (.int .i64 R.cols)).setCell _ (.slice AR R.kids.length cR)=W;obtain⟨⟨r0,r1,r2,r3⟩,rz,rb,ro,_⟩:=four HC.out.1 HC.out.2.1 HC.out.2.2.1 HC.out.2.2.2 _ _ _ _ hW.symm;have aa:=hid (rb w.heap.size w (by omega) aK.out);have bN:Hid (Z8 Z7 W (fun k=>w.heap.size<=k/\k<W.heap.size) R.kids (.slice AR R.kids.length cR)):=dK.out.keep (fun q hq=>(ro q (by have:=hq.1;have:=cZ.out;omega)).trans (dn.out.cell (by rw[bD.out];exact hq.2))) (fun k hk=>⟨by have:=hk.1;have:=cZ.out;omega,by rw[rz];have:=dn.out.size;rw[bD.out] at this;exact QV hk.2 this⟩);clear hW ro rb;refine bodyPost_ret (v:=.tuple #[.agg #[.int .i64 R.kind,.string R.text,.int .i64 R.cols,.slice AR R.kids.length cR],.int .i64 0]) (by simp[results,Tryz.results144,go_sem,r0,r1,r2,r3]) rfl ?_;rw[HR.out];exact⟨_,rfl,bN.out,aa.out⟩
def ZI (t:Z9) (a b:List Int):(List Int×Int×Int)×Int:=if b.length=0 then Xc (ZN t) (ZA t a) (ZA t a) (YC a a) else Xc (ZN t) (ZA t a) (ZA t b) (YC a b)
theorem zPk (t:Z9) (a b:List Int) (A Aa Ab:Option Addr) (cap ca cb:Nat) (w:World) (hv:Z8 Z7 w (Lt w.heap.size) t.kids (.slice A t.kids.length cap)) (au:t.text.size<=maxLen) (ha:Z0 w (Lt w.heap.size) a (.slice Aa a.length ca)) (hb:Z0 w (Lt w.heap.size) b (.slice Ab b.length cb)) :
  Calls Tryz.prog 82 #[.agg #[.int .i64 t.kind,.string t.text,.int .i64 t.cols,.slice A t.kids.length cap],.agg #[.slice Aa a.length ca,.slice Ab b.length cb]] w (X4 w (ZI t a b)):=by
 have C1:Hid (b.length=0->∀W,Below w.heap.size w W->Calls Tryz.prog 112 #[.agg #[.int .i64 t.kind,.string t.text,.int .i64 t.cols,.slice A t.kids.length cap],.slice Aa a.length ca,.slice Aa a.length ca] W (X4 W (ZI t a b))):=fun h0 W hW=>by
  unfold ZI;rw[if_pos h0];exact(zFj t a a A cap _ _ W (hv.below hW hW.size) au (ha.below hW hW.size) (ha.below hW hW.size)).mono fun e w' h=>Tn.v h
 have C2:Hid (¬b.length=0->∀W,Below w.heap.size w W->Calls Tryz.prog 112 #[.agg #[.int .i64 t.kind,.string t.text,.int .i64 t.cols,.slice A t.kids.length cap],.slice Aa a.length ca,.slice Ab b.length cb] W (X4 W (ZI t a b))):=fun h0 W hW=>by
  unfold ZI;rw[if_neg h0];exact(zFj t a b A cap _ _ W (hv.below hW hW.size) au (ha.below hW hW.size) (hb.below hW hW.size)).mono fun e w' h=>Tn.v h
 have aF:b.length<=maxLen:=by obtain⟨_,_,_,_,h1,h,_⟩:=hb;exact QP h1 h
 generalize ZI t a b=r at *;obtain⟨⟨m,x,y⟩,er⟩:=r;obtain⟨tk,tx,tc,ts⟩:=t;simp only[Z9.kind,Z9.text,Z9.cols,Z9.kids] at *;clear hv au ha hb;generalize ax:((w.alloc (Obj.cells #[.int .i64 tk,.string tx,.int .i64 tc,.slice A ts.length cap] 24)).alloc (.cells #[.slice Aa a.length ca,.slice Ab b.length cb] 27)).alloc (.cells #[.slice none 0 0,.int .i64 0,.int .i64 0] 67)=W0;have KB:Hid (∀W,Below W0.heap.size W0 W->(W.cell? ⟨w.heap.size,0,none⟩=some (.int .i64 tk)/\W.cell? ⟨w.heap.size,1,none⟩=some (.string tx)/\W.cell? ⟨w.heap.size,2,none⟩=some (.int .i64 tc)/\W.cell? ⟨w.heap.size,3,none⟩=some (.slice A ts.length cap)) /\
   (W.cell? ⟨w.heap.size+1,0,none⟩=some (.slice Aa a.length ca)/\W.cell? ⟨w.heap.size+1,1,none⟩=some (.slice Ab b.length cb)) /\
   (W.cell? ⟨w.heap.size+2,0,none⟩=some (.slice none 0 0)/\W.cell? ⟨w.heap.size+2,1,none⟩=some (.int .i64 0)/\W.cell? ⟨w.heap.size+2,2,none⟩=some (.int .i64 0)) /\
   (W.frozen? ⟨w.heap.size+2,0,none⟩=false/\W.frozen? ⟨w.heap.size+2,1,none⟩=false/\W.frozen? ⟨w.heap.size+2,2,none⟩=false)/\Below w.heap.size w W/\w.heap.size+2<W.heap.size):=by
  intro W hW;have hz:W0.heap.size=w.heap.size+1+1+1:=by rw[<-ax];simp
  have hc:=(bcell hW).1;have hf:=(bcell hW).2;have aC:Below w.heap.size w W0:=by rw[<-ax];exact WU (WU (XP _ _) _) _
  refine⟨⟨(hc _ _ (by omega)).trans ?_,(hc _ _ (by omega)).trans ?_,(hc _ _ (by omega)).trans ?_,(hc _ _ (by omega)).trans ?_⟩,⟨(hc _ _ (by omega)).trans ?_,(hc _ _ (by omega)).trans ?_⟩,⟨(hc _ _ (by omega)).trans ?_,(hc _ _ (by omega)).trans ?_,(hc _ _ (by omega)).trans ?_⟩,⟨(hf _ _ (by omega)).trans ?_,(hf _ _ (by omega)).trans ?_,(hf _ _ (by omega)).trans ?_⟩,aC.trans (hW.mono aC.size),by have:=hW.size;omega⟩
  all_goals (rw[<-ax];first|exact Zc _ _ _ _ _ (by simp)|exact YY _ _ _ _ _ (by simp)|exact XZ _ _ _ _ _ _ (by simp)|exact Yi _ _ _ _ _ (by simp;omega) (XZ _ _ _ _ _ _ rfl))
 obtain⟨⟨m0,m1,m2,m3⟩,⟨u0,u1⟩,⟨c0,c1,c2⟩,⟨f0,f1,f2⟩,ah,aB⟩:=KB.out W0 (QQ _ _);have ak:=hid ah;clear ah;unfold maxLen at aF;by_cases h0:b.length=0
 ·have e0:(((b.length:Int))==0)=true:=by first|(rw[h0];rfl)|(rw[beq_eq_false_iff_ne];omega)
  have C:=hid (C1.out h0 W0 ak.out);clear C1 C2 h0;go_enter Tryz.func82,Tryz.ntmps82
  go_wp2_with fail
  refine C.out.mono ?_;intro e w1 h;obtain⟨v1,rfl,ae,ai⟩:∃v,e=.returned (.tuple #[.agg #[v,.int .i64 x,.int .i64 y],.int .i64 er])/\Z0 w1 (fun k=>W0.heap.size<=k/\k<w1.heap.size) m v/\Below W0.heap.size W0 w1:=h;clear m0 m1 m2 m3 u0 u1 c0 c1 c2 f0 f1 f2 aB;obtain⟨Am,cm,rfl⟩:=ae.form;obtain⟨_,_,av,⟨f0,f1,f2⟩,aa,aD⟩:=KB.out w1 ai;have ay:=hid ae;have ag:=hid aa;have aj:Hid (w.heap.size+2<W0.heap.size):=(KB.out W0 (QQ _ _)).2.2.2.2.2;obtain⟨c0,c1,c2⟩:=av;have af:=hid (QS c0 (QS c1 c2));clear ai aa ae
  go_wp2_with fail
  generalize hW:((w1.setCell _ (.slice Am m.length cm)).setCell _ (.int .i64 x)).setCell _ (.int .i64 y)=W;obtain⟨⟨r0,r1,r2⟩,rz,rb,ro⟩:=three af.out.1 af.out.2.1 af.out.2.2 _ _ _ hW.symm;have aA:=hid (rb w.heap.size w (by omega) ag.out);have az:Hid (Z0 W (fun k=>w.heap.size<=k/\k<W.heap.size) m (.slice Am m.length cm)):=by
   refine ay.out.keep (fun p hp=>ro p ?_) (fun j hj=>?_)
   ·have:=hp.1;have:=aj.out;omega
   have:=hj.1;have:=hj.2;have:=aj.out;exact⟨by omega,by omega⟩
  clear hW ro rb;refine bodyPost_ret (v:=.tuple #[.agg #[.slice Am m.length cm,.int .i64 x,.int .i64 y],.int .i64 er]) (by simp[results,Tryz.results82,go_sem,r0,r1,r2]) rfl ?_;exact⟨_,rfl,az.out,aA.out⟩
 have e0:(((b.length:Int))==0)=false:=by first|(rw[h0];rfl)|(rw[beq_eq_false_iff_ne];omega)
 have C:=hid (C2.out h0 W0 ak.out);clear C1 C2 h0;go_enter Tryz.func82,Tryz.ntmps82
 go_wp2_with fail
 refine C.out.mono ?_;intro e w1 h;obtain⟨v1,rfl,ae,ai⟩:∃v,e=.returned (.tuple #[.agg #[v,.int .i64 x,.int .i64 y],.int .i64 er])/\Z0 w1 (fun k=>W0.heap.size<=k/\k<w1.heap.size) m v/\Below W0.heap.size W0 w1:=h;clear m0 m1 m2 m3 u0 u1 c0 c1 c2 f0 f1 f2 aB;obtain⟨Am,cm,rfl⟩:=ae.form;obtain⟨_,_,av,⟨f0,f1,f2⟩,aa,aD⟩:=KB.out w1 ai;have ay:=hid ae;have ag:=hid aa;have aj:Hid (w.heap.size+2<W0.heap.size):=(KB.out W0 (QQ _ _)).2.2.2.2.2;obtain⟨c0,c1,c2⟩:=av;have af:=hid (QS c0 (QS c1 c2));clear ai aa ae
 go_wp2_with fail
 generalize hW:((w1.setCell _ (.slice Am m.length cm)).setCell _ (.int .i64 x)).setCell _ (.int .i64 y)=W;obtain⟨⟨r0,r1,r2⟩,rz,rb,ro⟩:=three af.out.1 af.out.2.1 af.out.2.2 _ _ _ hW.symm;have aA:=hid (rb w.heap.size w (by omega) ag.out);have az:Hid (Z0 W (fun k=>w.heap.size<=k/\k<W.heap.size) m (.slice Am m.length cm)):=by
  refine ay.out.keep (fun p hp=>ro p ?_) (fun j hj=>?_)
  ·have:=hp.1;have:=aj.out;omega
  have:=hj.1;have:=hj.2;have:=aj.out;exact⟨by omega,by omega⟩
 clear hW ro rb;refine bodyPost_ret (v:=.tuple #[.agg #[.slice Am m.length cm,.int .i64 x,.int .i64 y],.int .i64 er]) (by simp[results,Tryz.results82,go_sem,r0,r1,r2]) rfl ?_;exact⟨_,rfl,az.out,aA.out⟩
theorem Uv (t:Z9) (a b:List Int) (A Aa Ab:Option Addr) (cap ca cb:Nat) (w:World) (hv:Z8 Z7 w (Lt w.heap.size) t.kids (.slice A t.kids.length cap)) (au:t.text.size<=maxLen) (ha:Z0 w (Lt w.heap.size) a (.slice Aa a.length ca)) (hb:Z0 w (Lt w.heap.size) b (.slice Ab b.length cb)) (ax:ZW t<=900000) :
  Calls Tryz.prog 107 #[.agg #[.int .i64 t.kind,.string t.text,.int .i64 t.cols,.slice A t.kids.length cap],.agg #[.slice Aa a.length ca,.slice Ab b.length cb]] w (X4 w (ZI t a b)):=by
 have C1:Hid (b.length=0->∀W,Below w.heap.size w W->Calls Tryz.prog 140 #[.agg #[.int .i64 t.kind,.string t.text,.int .i64 t.cols,.slice A t.kids.length cap],.slice Aa a.length ca,.slice Aa a.length ca] W (X4 W (ZI t a b))):=fun h0 W hW=>by
  unfold ZI;rw[if_pos h0];exact(zGy t a a A cap _ _ W (hv.below hW hW.size) au ax (ha.below hW hW.size) (ha.below hW hW.size)).mono fun e w' h=>Tn.v h
 have C2:Hid (¬b.length=0->∀W,Below w.heap.size w W->Calls Tryz.prog 140 #[.agg #[.int .i64 t.kind,.string t.text,.int .i64 t.cols,.slice A t.kids.length cap],.slice Aa a.length ca,.slice Ab b.length cb] W (X4 W (ZI t a b))):=fun h0 W hW=>by
  unfold ZI;rw[if_neg h0];exact(zGy t a b A cap _ _ W (hv.below hW hW.size) au ax (ha.below hW hW.size) (hb.below hW hW.size)).mono fun e w' h=>Tn.v h
 have aG:b.length<=maxLen:=by obtain⟨_,_,_,_,h1,h,_⟩:=hb;exact QP h1 h
 generalize ZI t a b=r at *;obtain⟨⟨m,x,y⟩,er⟩:=r;obtain⟨tk,tx,tc,ts⟩:=t;simp only[Z9.kind,Z9.text,Z9.cols,Z9.kids] at *;clear hv au ha hb ax;generalize ay:((w.alloc (Obj.cells #[.int .i64 tk,.string tx,.int .i64 tc,.slice A ts.length cap] 24)).alloc (.cells #[.slice Aa a.length ca,.slice Ab b.length cb] 27)).alloc (.cells #[.slice none 0 0,.int .i64 0,.int .i64 0] 67)=W0;have KB:Hid (∀W,Below W0.heap.size W0 W->(W.cell? ⟨w.heap.size,0,none⟩=some (.int .i64 tk)/\W.cell? ⟨w.heap.size,1,none⟩=some (.string tx)/\W.cell? ⟨w.heap.size,2,none⟩=some (.int .i64 tc)/\W.cell? ⟨w.heap.size,3,none⟩=some (.slice A ts.length cap)) /\
   (W.cell? ⟨w.heap.size+1,0,none⟩=some (.slice Aa a.length ca)/\W.cell? ⟨w.heap.size+1,1,none⟩=some (.slice Ab b.length cb)) /\
   (W.cell? ⟨w.heap.size+2,0,none⟩=some (.slice none 0 0)/\W.cell? ⟨w.heap.size+2,1,none⟩=some (.int .i64 0)/\W.cell? ⟨w.heap.size+2,2,none⟩=some (.int .i64 0)) /\
   (W.frozen? ⟨w.heap.size+2,0,none⟩=false/\W.frozen? ⟨w.heap.size+2,1,none⟩=false/\W.frozen? ⟨w.heap.size+2,2,none⟩=false)/\Below w.heap.size w W/\w.heap.size+2<W.heap.size):=by
  intro W hW;have hz:W0.heap.size=w.heap.size+1+1+1:=by rw[<-ay];simp
  have hc:=(bcell hW).1;have hf:=(bcell hW).2;have aD:Below w.heap.size w W0:=by rw[<-ay];exact WU (WU (XP _ _) _) _
  refine⟨⟨(hc _ _ (by omega)).trans ?_,(hc _ _ (by omega)).trans ?_,(hc _ _ (by omega)).trans ?_,(hc _ _ (by omega)).trans ?_⟩,⟨(hc _ _ (by omega)).trans ?_,(hc _ _ (by omega)).trans ?_⟩,⟨(hc _ _ (by omega)).trans ?_,(hc _ _ (by omega)).trans ?_,(hc _ _ (by omega)).trans ?_⟩,⟨(hf _ _ (by omega)).trans ?_,(hf _ _ (by omega)).trans ?_,(hf _ _ (by omega)).trans ?_⟩,aD.trans (hW.mono aD.size),by have:=hW.size;omega⟩
  all_goals (rw[<-ay];first|exact Zc _ _ _ _ _ (by simp)|exact YY _ _ _ _ _ (by simp)|exact XZ _ _ _ _ _ _ (by simp)|exact Yi _ _ _ _ _ (by simp;omega) (XZ _ _ _ _ _ _ rfl))
 obtain⟨⟨m0,m1,m2,m3⟩,⟨u0,u1⟩,⟨c0,c1,c2⟩,⟨f0,f1,f2⟩,ah,aC⟩:=KB.out W0 (QQ _ _);have ak:=hid ah;clear ah;unfold maxLen at aG;by_cases h0:b.length=0
 ·have e0:(((b.length:Int))==0)=true:=by first|(rw[h0];rfl)|(rw[beq_eq_false_iff_ne];omega)
  have C:=hid (C1.out h0 W0 ak.out);clear C1 C2 h0;go_enter Tryz.func107,Tryz.ntmps107
  go_wp2_with fail
  refine C.out.mono ?_;intro e w1 h;obtain⟨v1,rfl,ae,ai⟩:∃v,e=.returned (.tuple #[.agg #[v,.int .i64 x,.int .i64 y],.int .i64 er])/\Z0 w1 (fun k=>W0.heap.size<=k/\k<w1.heap.size) m v/\Below W0.heap.size W0 w1:=h;clear m0 m1 m2 m3 u0 u1 c0 c1 c2 f0 f1 f2 aC;obtain⟨Am,cm,rfl⟩:=ae.form;obtain⟨_,_,av,⟨f0,f1,f2⟩,aa,aF⟩:=KB.out w1 ai;have az:=hid ae;have ag:=hid aa;have aj:Hid (w.heap.size+2<W0.heap.size):=(KB.out W0 (QQ _ _)).2.2.2.2.2;obtain⟨c0,c1,c2⟩:=av;have af:=hid (QS c0 (QS c1 c2));clear ai aa ae
  go_wp2_with fail
  generalize hW:((w1.setCell _ (.slice Am m.length cm)).setCell _ (.int .i64 x)).setCell _ (.int .i64 y)=W;obtain⟨⟨r0,r1,r2⟩,rz,rb,ro⟩:=three af.out.1 af.out.2.1 af.out.2.2 _ _ _ hW.symm;have aB:=hid (rb w.heap.size w (by omega) ag.out);have aA:Hid (Z0 W (fun k=>w.heap.size<=k/\k<W.heap.size) m (.slice Am m.length cm)):=by
   refine az.out.keep (fun p hp=>ro p ?_) (fun j hj=>?_)
   ·have:=hp.1;have:=aj.out;omega
   have:=hj.1;have:=hj.2;have:=aj.out;exact⟨by omega,by omega⟩
  clear hW ro rb;refine bodyPost_ret (v:=.tuple #[.agg #[.slice Am m.length cm,.int .i64 x,.int .i64 y],.int .i64 er]) (by simp[results,Tryz.results107,go_sem,r0,r1,r2]) rfl ?_;exact⟨_,rfl,aA.out,aB.out⟩
 have e0:(((b.length:Int))==0)=false:=by first|(rw[h0];rfl)|(rw[beq_eq_false_iff_ne];omega)
 have C:=hid (C2.out h0 W0 ak.out);clear C1 C2 h0;go_enter Tryz.func107,Tryz.ntmps107
 go_wp2_with fail
 refine C.out.mono ?_;intro e w1 h;obtain⟨v1,rfl,ae,ai⟩:∃v,e=.returned (.tuple #[.agg #[v,.int .i64 x,.int .i64 y],.int .i64 er])/\Z0 w1 (fun k=>W0.heap.size<=k/\k<w1.heap.size) m v/\Below W0.heap.size W0 w1:=h;clear m0 m1 m2 m3 u0 u1 c0 c1 c2 f0 f1 f2 aC;obtain⟨Am,cm,rfl⟩:=ae.form;obtain⟨_,_,av,⟨f0,f1,f2⟩,aa,aF⟩:=KB.out w1 ai;have az:=hid ae;have ag:=hid aa;have aj:Hid (w.heap.size+2<W0.heap.size):=(KB.out W0 (QQ _ _)).2.2.2.2.2;obtain⟨c0,c1,c2⟩:=av;have af:=hid (QS c0 (QS c1 c2));clear ai aa ae
 go_wp2_with fail
 generalize hW:((w1.setCell _ (.slice Am m.length cm)).setCell _ (.int .i64 x)).setCell _ (.int .i64 y)=W;obtain⟨⟨r0,r1,r2⟩,rz,rb,ro⟩:=three af.out.1 af.out.2.1 af.out.2.2 _ _ _ hW.symm;have aB:=hid (rb w.heap.size w (by omega) ag.out);have aA:Hid (Z0 W (fun k=>w.heap.size<=k/\k<W.heap.size) m (.slice Am m.length cm)):=by
  refine az.out.keep (fun p hp=>ro p ?_) (fun j hj=>?_)
  ·have:=hp.1;have:=aj.out;omega
  have:=hj.1;have:=hj.2;have:=aj.out;exact⟨by omega,by omega⟩
 clear hW ro rb;refine bodyPost_ret (v:=.tuple #[.agg #[.slice Am m.length cm,.int .i64 x,.int .i64 y],.int .i64 er]) (by simp[results,Tryz.results107,go_sem,r0,r1,r2]) rfl ?_;exact⟨_,rfl,aA.out,aB.out⟩
