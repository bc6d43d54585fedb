/- T -/
import Derived.Test.YthpngeboknmllaaGreatQ85fd
set_option linter.unusedVariables false
set_option linter.unusedSimpArgs false
set_option maxHeartbeats 4000000
set_option maxRecDepth 100000
namespace Go.Proofs.YthpngeboknmllaaGreat
open Go.RowKit
theorem zJ7 {w:World} {S:Nat->Prop}:(t:Z9)->(p:List Int)->(t':Z9)->ZE t p=some t'->Zk t->(∃v,Z8 Z6 w S t.kids v)->Zk t'/\ZR t'<=ZR t
 |
  t,[],t',h,hok,_=>by
  simp[ZE] at h;subst h;exact⟨hok,Qi _⟩
 |t,[_],t',h,_,_=>by simp[ZE] at h
 |
  t,i::k::p,t',h,hok,hv=>by
  rw[ZE] at h;split at h
  ·rename_i hi;split at h
   ·rename_i hk;obtain⟨v,A,cap,cs,rfl,_,_,_,hl⟩:=hv;obtain⟨c,_,hR,_⟩:=hl.at_ hi.2;obtain⟨v1,rfl,a1,a2,a3,ae⟩:=Yl.1 hR;obtain⟨A1,ah,cs1,rfl,_,_,_,af⟩:=ae;obtain⟨c1,_,ag,_⟩:=af.at_ hk.2;obtain⟨v2,rfl,b1,b2,b3,aa⟩:=Yl.1 ag;obtain⟨q1,q2⟩:=zJ7 (w:=w) (S:=S) _ p t' h ⟨b1,b2,b3⟩ ⟨v2,aa⟩;refine⟨q1,?_⟩;have e1:ZR t.kids[i.toNat]<=ZR t:=by
     rw[Xw t];have:=WV hi.2;have:=Xx t.kids (i.toNat+1);omega
    have e2:ZR t.kids[i.toNat].kids[k.toNat]<=ZR t.kids[i.toNat]:=by
     rw[Xw t.kids[i.toNat]];have:=WV hk.2;have:=Xx t.kids[i.toNat].kids (k.toNat+1);omega
    omega
   cases h
  cases h
def XB (w:World) (x:Z9) (er:Int) (e:Ending) (w':World):Prop :=
 ∃v,e=.returned (.tuple #[.agg #[.int .i64 x.kind,.string x.text,.int .i64 x.cols,v],.int .i64 er])/\Z8 Z6 w' (fun k=>w.heap.size<=k/\k<w'.heap.size) x.kids v/\Below w.heap.size w w'
theorem zKi (t:Z9) (p:List Int) (A Ap:Option Addr) (cap cp:Nat) (w:World) (hv:Z8 Z6 w (Lt w.heap.size) t.kids (.slice A t.kids.length cap)) (aF:Zk t) (bq:ZR t<=900000) (hp:Z0 w (Lt w.heap.size) p (.slice Ap p.length cp)) :
  Calls Tryz.prog 83 #[.agg #[.int .i64 t.kind,.string t.text,.int .i64 t.cols,.slice A t.kids.length cap],.slice Ap p.length cp] w (XB w (ZM t p).1 (ZM t p).2):=by
 have C1:Hid (∀W,Below w.heap.size w W->Calls Tryz.prog 53 #[.agg #[.int .i64 t.kind,.string t.text,.int .i64 t.cols,.slice A t.kids.length cap]] W fun e w'=>e=.returned (.bool (ZU t))/\Below W.heap.size W w'):=fun W hW=>Wh t A cap W (hv.below hW hW.size) aF.2.2
 have C2:Hid (∀W,Below w.heap.size w W->W.cell? ⟨w.heap.size,0,none⟩=some (.int .i64 t.kind)/\W.cell? ⟨w.heap.size,1,none⟩=some (.string t.text)/\W.cell? ⟨w.heap.size,2,none⟩=some (.int .i64 t.cols)/\W.cell? ⟨w.heap.size,3,none⟩=some (.slice A t.kids.length cap)->w.heap.size<W.heap.size ->
   Calls Tryz.prog 113 #[.pointer (some ⟨w.heap.size,0,none⟩),.slice Ap p.length cp] W (Uc W (ZE t p))):=fun W hW hc hz=>by
  obtain⟨_,_,rs,hq,h1,h2,h3,h4⟩:=hv.below hW hW.size;cases hq;exact zG0 t p w.heap.size 0 A cap rs _ W ⟨by simpa using hc,hz,aF.2.2,h1,h2,h3,h4⟩ (hp.below hW hW.size)
 have C3:Hid (∀t',ZE t p=some t'->Zk t'/\ZR t'<=1000000):=fun t' h=>by
  obtain⟨h1,h2⟩:=zJ7 t p t' h aF ⟨_,hv⟩;exact⟨h1,by omega⟩
 have HR:Hid (ZM t p=if ZU t=false then (ZN,(1:Int)) else match ZE t p with|none=>(ZN,(8:Int))|some x=>(x,(0:Int))):=by
  show ZM t p=_;rw[ZM,Re];cases ZU t<;>cases (ZP t p).2<;>simp
 generalize ZM t p=r at *;generalize ZE t p=f at *;generalize ZU t=b1 at *;obtain⟨tk,tx,tc,ts⟩:=t;obtain⟨⟨rk,rx,rc,rt⟩,re⟩:=r;simp only[Z9.kind,Z9.text,Z9.cols,Z9.kids] at *;clear hv aF bq hp;generalize aK:(w.alloc (Obj.cells #[.int .i64 tk,.string tx,.int .i64 tc,.slice A ts.length cap] 24)).alloc (.cells #[.int .i64 0,.string ⟨#[]⟩,.int .i64 0,.slice none 0 0] 24)=W0;have KB:Hid (∀W,Below W0.heap.size W0 W->(W.cell? ⟨w.heap.size,0,none⟩=some (.int .i64 tk)/\W.cell? ⟨w.heap.size,1,none⟩=some (.string tx)/\W.cell? ⟨w.heap.size,2,none⟩=some (.int .i64 tc)/\W.cell? ⟨w.heap.size,3,none⟩=some (.slice A ts.length cap)) /\
   (W.cell? ⟨w.heap.size+1,0,none⟩=some (.int .i64 0)/\W.cell? ⟨w.heap.size+1,1,none⟩=some (.string ⟨#[]⟩)/\W.cell? ⟨w.heap.size+1,2,none⟩=some (.int .i64 0)/\W.cell? ⟨w.heap.size+1,3,none⟩=some (.slice none 0 0)) /\
   (W.frozen? ⟨w.heap.size+1,0,none⟩=false/\W.frozen? ⟨w.heap.size+1,1,none⟩=false/\W.frozen? ⟨w.heap.size+1,2,none⟩=false/\W.frozen? ⟨w.heap.size+1,3,none⟩=false)/\Below w.heap.size w W/\w.heap.size+1<W.heap.size):=by
  intro W hW;have hz:W0.heap.size=w.heap.size+1+1:=by rw[<-aK];simp
  have hc:=(bcell hW).1;have hf:=(bcell hW).2;have aU:Below w.heap.size w W0:=by rw[<-aK];exact TJ (WI _ _) _
  refine⟨⟨(hc _ _ (by omega)).trans ?_,(hc _ _ (by omega)).trans ?_,(hc _ _ (by omega)).trans ?_,(hc _ _ (by omega)).trans ?_⟩,⟨(hc _ _ (by omega)).trans ?_,(hc _ _ (by omega)).trans ?_,(hc _ _ (by omega)).trans ?_,(hc _ _ (by omega)).trans ?_⟩,⟨(hf _ _ (by omega)).trans ?_,(hf _ _ (by omega)).trans ?_,(hf _ _ (by omega)).trans ?_,(hf _ _ (by omega)).trans ?_⟩,aU.trans (hW.mono aU.size),by have:=hW.size;omega⟩
  all_goals (rw[<-aK];first|exact Xn _ _ _ _ _ _ rfl|exact YY _ _ _ _ _ (by simp)|exact YK _ _ _ _ _ (by simp))
 rcases b1 with _|_
 ·clear C2 C3;obtain⟨⟨m0,m1,m2,m3⟩,⟨c0,c1,c2,c3⟩,⟨f0,f1,f2,f3⟩,ae,ay⟩:=KB.out W0 (Qg _ _);have ak:=hid ae;clear ae;go_enter Tryz.func83,Tryz.ntmps83
  go_wp2_with fail
  refine(C1.out _ ak.out).mono ?_;rintro e w1 ⟨rfl,ah⟩;clear m0 m1 m2 m3 c0 c1 c2 c3 f0 f1 f2 f3 ay;obtain⟨⟨m0,m1,m2,m3⟩,az,⟨f0,f1,f2,f3⟩,aa,aD⟩:=KB.out w1 ah;have af:=hid ah;have aj:=hid aa;obtain⟨c0,c1,c2,c3⟩:=az;have ax:=hid (Qh c0 (Qh c1 (Qh c2 c3)));clear ah aa
  go_wp2_with fail
  generalize hW:(((w1.setCell _ (.int .i64 0)).setCell _ (.string ⟨#[]⟩)).setCell _ (.int .i64 0)).setCell _ (.slice none 0 0)=W;obtain⟨⟨r0,r1,r2,r3⟩,rz,rb,ro,_⟩:=four ax.out.1 ax.out.2.1 ax.out.2.2.1 ax.out.2.2.2 _ _ _ _ hW.symm;have aC:=hid (rb w.heap.size w (by omega) aj.out);have aL:Hid (∀q:Addr,q.block≠w.heap.size+1->W.cell? q=(w1).cell? q):=ro;clear hW ro rb;refine bodyPost_ret (v:=.tuple #[.agg #[.int .i64 0,.string ⟨#[]⟩,.int .i64 0,.slice none 0 0],.int .i64 1]) (by simp[results,Tryz.results83,go_sem,r0,r1,r2,r3]) rfl ?_;have h:=HR.out;simp[ZN] at h;obtain⟨⟨h1,h2,h3,h4⟩,h5⟩:=h;refine⟨.slice none 0 0,by rw[h5];simp only[h1,h2,h3];rfl,by simp only[h4];exact Z8.nil_ 0 (Qj _) none,aC.out⟩
 rcases f with _|t'
 ·obtain⟨⟨m0,m1,m2,m3⟩,⟨c0,c1,c2,c3⟩,⟨f0,f1,f2,f3⟩,ae,ay⟩:=KB.out W0 (Qg _ _);have ak:=hid ae;clear ae;go_enter Tryz.func83,Tryz.ntmps83
  go_wp2_with fail
  refine(C1.out _ ak.out).mono ?_;rintro e w1 ⟨rfl,ah⟩;clear m0 m1 m2 m3 c0 c1 c2 c3 f0 f1 f2 f3 ay;obtain⟨⟨m0,m1,m2,m3⟩,az,⟨f0,f1,f2,f3⟩,aa,aD⟩:=KB.out w1 ah;have af:=hid ah;have aj:=hid aa;obtain⟨c0,c1,c2,c3⟩:=az;have ax:=hid (Qh c0 (Qh c1 (Qh c2 c3)));clear ah aa
  go_wp2_with fail
  refine(C2.out _ aj.out ⟨m0,m1,m2,m3⟩ (by omega)).mono ?_;rintro e w2 ⟨⟨n2,rfl⟩,⟨_,q2,rfl⟩|⟨t',g,o,A',cap',rs,h,_⟩⟩
  case inr=>cases h
  obtain⟨w2,ag⟩:∃w2,w2=w1.drewN n2:=⟨_,rfl⟩;rw[<-ag];have av:Below w1.heap.size w1 w2:=by rw[ag];exact XD (Qg _ _) n2
  clear m0 m1 m2 m3 c0 c1 c2 c3 f0 f1 f2 f3 ag aD;have au:=hid (af.out.trans (av.mono af.out.size));obtain⟨⟨m0,m1,m2,m3⟩,aZ,⟨f0,f1,f2,f3⟩,aB,hz2⟩:=KB.out w2 au.out;have aN:=hid aB;obtain⟨c0,c1,c2,c3⟩:=aZ;have aH:=hid (Qh c0 (Qh c1 (Qh c2 c3)));clear av aB
  go_wp2_with fail
  generalize hW:(((w2.setCell _ (.int .i64 0)).setCell _ (.string ⟨#[]⟩)).setCell _ (.int .i64 0)).setCell _ (.slice none 0 0)=W;obtain⟨⟨r0,r1,r2,r3⟩,rz,rb,ro,_⟩:=four aH.out.1 aH.out.2.1 aH.out.2.2.1 aH.out.2.2.2 _ _ _ _ hW.symm;have aC:=hid (rb w.heap.size w (by omega) aN.out);have aL:Hid (∀q:Addr,q.block≠w.heap.size+1->W.cell? q=w2.cell? q):=ro;clear hW ro rb;refine bodyPost_ret (v:=.tuple #[.agg #[.int .i64 0,.string ⟨#[]⟩,.int .i64 0,.slice none 0 0],.int .i64 8]) (by simp[results,Tryz.results83,go_sem,r0,r1,r2,r3]) rfl ?_;have h:=HR.out;simp[ZN] at h;obtain⟨⟨h1,h2,h3,h4⟩,h5⟩:=h;refine⟨.slice none 0 0,by rw[h5];simp only[h1,h2,h3];rfl,by simp only[h4];exact Z8.nil_ 0 (Qj _) none,aC.out⟩
 obtain⟨⟨m0,m1,m2,m3⟩,⟨c0,c1,c2,c3⟩,⟨f0,f1,f2,f3⟩,ae,ay⟩:=KB.out W0 (Qg _ _);have ak:=hid ae;clear ae;go_enter Tryz.func83,Tryz.ntmps83
 go_wp2_with fail
 refine(C1.out _ ak.out).mono ?_;rintro e w1 ⟨rfl,ah⟩;clear m0 m1 m2 m3 c0 c1 c2 c3 f0 f1 f2 f3 ay;obtain⟨⟨m0,m1,m2,m3⟩,az,⟨f0,f1,f2,f3⟩,aa,aD⟩:=KB.out w1 ah;have af:=hid ah;have aj:=hid aa;obtain⟨c0,c1,c2,c3⟩:=az;have ax:=hid (Qh c0 (Qh c1 (Qh c2 c3)));clear ah aa
 go_wp2_with fail
 refine(C2.out _ aj.out ⟨m0,m1,m2,m3⟩ (by omega)).mono ?_;rintro e w2 ⟨⟨n2,rfl⟩,⟨h,_⟩|⟨t'',g,o,A',cap',rs,h,rfl,⟨d0,d1,d2,d3⟩,bn,aY,aT,aS,aR,aQ⟩⟩
 case inl=>cases h
 cases h;obtain⟨w2,ag⟩:∃w2,w2=w1.drewN n2:=⟨_,rfl⟩;rw[<-ag];have av:Below w1.heap.size w1 w2:=by rw[ag];exact XD (Qg _ _) n2
 have aP:Z8 Z6 w2 (Lt w2.heap.size) t'.kids (.slice A' t'.kids.length cap'):=Z8.below (B:=w1.heap.size) ⟨A',cap',rs,rfl,aT,aS,aR,aQ⟩ av av.size
 replace d0:w2.cell? ⟨g,o,none⟩=some (.int .i64 t'.kind):=by rw[ag];exact d0
 replace d1:w2.cell? ⟨g,o+1,none⟩=some (.string t'.text):=by rw[ag];exact d1
 replace d2:w2.cell? ⟨g,o+2,none⟩=some (.int .i64 t'.cols):=by rw[ag];exact d2
 replace d3:w2.cell? ⟨g,o+3,none⟩=some (.slice A' t'.kids.length cap'):=by rw[ag];exact d3
 clear m0 m1 m2 m3 c0 c1 c2 c3 f0 f1 f2 f3 ag aD aT aS aR aQ bn aY;have au:=hid (af.out.trans (av.mono af.out.size));clear av
 go_wp2_with fail
 refine(zDq t' A' cap' w2 aP (C3.out _ rfl).1 (C3.out _ rfl).2).mono ?_;intro e w3 h3;obtain⟨v3,rfl,aJ,aV⟩:=h3;obtain⟨A3,aW,rfl⟩:=aJ.form;have bu:=hid aJ;have aO:=hid (au.out.trans (aV.mono au.out.size));obtain⟨bg,aI,⟨f0,f1,f2,f3⟩,aA,hz3⟩:=KB.out w3 aO.out;have aM:=hid aA;obtain⟨c0,c1,c2,c3⟩:=aI;have aG:=hid (Qh c0 (Qh c1 (Qh c2 c3)));have aX:Hid (w.heap.size+1<w2.heap.size):=by obtain⟨_,_,_,_,h⟩:=KB.out w2 au.out;exact h
 clear aV aA bg aJ d0 d1 d2 d3 aP
 go_wp2_with fail
 generalize hW:(((w3.setCell _ (.int .i64 t'.kind)).setCell _ (.string t'.text)).setCell _ (.int .i64 t'.cols)).setCell _ (.slice A3 t'.kids.length aW)=W;obtain⟨⟨r0,r1,r2,r3⟩,rz,rb,ro,_⟩:=four aG.out.1 aG.out.2.1 aG.out.2.2.1 aG.out.2.2.2 _ _ _ _ hW.symm;have aC:=hid (rb w.heap.size w (by omega) aM.out);have aL:Hid (∀q:Addr,q.block≠w.heap.size+1->W.cell? q=w3.cell? q):=ro;clear hW ro rb;refine bodyPost_ret (v:=.tuple #[.agg #[.int .i64 t'.kind,.string t'.text,.int .i64 t'.cols,.slice A3 t'.kids.length aW],.int .i64 0]) (by simp[results,Tryz.results83,go_sem,r0,r1,r2,r3]) rfl ?_;have h:=HR.out;simp at h;obtain⟨rfl,rfl⟩:=h;refine⟨_,rfl,bu.out.keep (fun q hq=>aL.out q (Nat.ne_of_gt (Qk aX.out hq.1))) (fun q hq=>⟨by have:=aX.out;omega,by rw[rz];exact hq.2⟩),aC.out⟩
def ZK (t:Z9) (a b:List Int):(List Int×Int×Int)×Int:=if b.length=0 then Xi (ZU t) (ZO t a) (ZO t a) (Yp a a) else Xi (ZU t) (ZO t a) (ZO t b) (Yp a b)
theorem zPk (t:Z9) (a b:List Int) (A Aa Ab:Option Addr) (cap ca cb:Nat) (w:World) (hv:Z8 Z6 w (Lt w.heap.size) t.kids (.slice A t.kids.length cap)) (av:t.text.size<=maxLen) (ha:Z0 w (Lt w.heap.size) a (.slice Aa a.length ca)) (hb:Z0 w (Lt w.heap.size) b (.slice Ab b.length cb)) :
  Calls Tryz.prog 82 #[.agg #[.int .i64 t.kind,.string t.text,.int .i64 t.cols,.slice A t.kids.length cap],.agg #[.slice Aa a.length ca,.slice Ab b.length cb]] w (Ub w (ZK t a b)):=by
 have C1:Hid (b.length=0->∀W,Below w.heap.size w W->Calls Tryz.prog 112 #[.agg #[.int .i64 t.kind,.string t.text,.int .i64 t.cols,.slice A t.kids.length cap],.slice Aa a.length ca,.slice Aa a.length ca] W (Ub W (ZK t a b))):=fun h0 W hW=>by
  unfold ZK;rw[if_pos h0];exact(zFj t a a A cap _ _ W (hv.below hW hW.size) av (ha.below hW hW.size) (ha.below hW hW.size)).mono fun e w' h=>zG5.v h
 have C2:Hid (¬b.length=0->∀W,Below w.heap.size w W->Calls Tryz.prog 112 #[.agg #[.int .i64 t.kind,.string t.text,.int .i64 t.cols,.slice A t.kids.length cap],.slice Aa a.length ca,.slice Ab b.length cb] W (Ub W (ZK t a b))):=fun h0 W hW=>by
  unfold ZK;rw[if_neg h0];exact(zFj t a b A cap _ _ W (hv.below hW hW.size) av (ha.below hW hW.size) (hb.below hW hW.size)).mono fun e w' h=>zG5.v h
 have aG:b.length<=maxLen:=by obtain⟨_,_,_,_,h1,h,_⟩:=hb;exact Qf h1 h
 generalize ZK t a b=r at *;obtain⟨⟨m,x,y⟩,er⟩:=r;obtain⟨tk,tx,tc,ts⟩:=t;simp only[Z9.kind,Z9.text,Z9.cols,Z9.kids] at *;clear hv av ha hb;generalize ay:((w.alloc (Obj.cells #[.int .i64 tk,.string tx,.int .i64 tc,.slice A ts.length cap] 24)).alloc (.cells #[.slice Aa a.length ca,.slice Ab b.length cb] 27)).alloc (.cells #[.slice none 0 0,.int .i64 0,.int .i64 0] 67)=W0;have KB:Hid (∀W,Below W0.heap.size W0 W->(W.cell? ⟨w.heap.size,0,none⟩=some (.int .i64 tk)/\W.cell? ⟨w.heap.size,1,none⟩=some (.string tx)/\W.cell? ⟨w.heap.size,2,none⟩=some (.int .i64 tc)/\W.cell? ⟨w.heap.size,3,none⟩=some (.slice A ts.length cap)) /\
   (W.cell? ⟨w.heap.size+1,0,none⟩=some (.slice Aa a.length ca)/\W.cell? ⟨w.heap.size+1,1,none⟩=some (.slice Ab b.length cb)) /\
   (W.cell? ⟨w.heap.size+2,0,none⟩=some (.slice none 0 0)/\W.cell? ⟨w.heap.size+2,1,none⟩=some (.int .i64 0)/\W.cell? ⟨w.heap.size+2,2,none⟩=some (.int .i64 0)) /\
   (W.frozen? ⟨w.heap.size+2,0,none⟩=false/\W.frozen? ⟨w.heap.size+2,1,none⟩=false/\W.frozen? ⟨w.heap.size+2,2,none⟩=false)/\Below w.heap.size w W/\w.heap.size+2<W.heap.size):=by
  intro W hW;have hz:W0.heap.size=w.heap.size+1+1+1:=by rw[<-ay];simp
  have hc:=(bcell hW).1;have hf:=(bcell hW).2;have aD:Below w.heap.size w W0:=by rw[<-ay];exact TJ (TJ (WI _ _) _) _
  refine⟨⟨(hc _ _ (by omega)).trans ?_,(hc _ _ (by omega)).trans ?_,(hc _ _ (by omega)).trans ?_,(hc _ _ (by omega)).trans ?_⟩,⟨(hc _ _ (by omega)).trans ?_,(hc _ _ (by omega)).trans ?_⟩,⟨(hc _ _ (by omega)).trans ?_,(hc _ _ (by omega)).trans ?_,(hc _ _ (by omega)).trans ?_⟩,⟨(hf _ _ (by omega)).trans ?_,(hf _ _ (by omega)).trans ?_,(hf _ _ (by omega)).trans ?_⟩,aD.trans (hW.mono aD.size),by have:=hW.size;omega⟩
  all_goals (rw[<-ay];first|exact YY _ _ _ _ _ (by simp)|exact YK _ _ _ _ _ (by simp)|exact Xn _ _ _ _ _ _ (by simp)|exact XP _ _ _ _ _ (by simp;omega) (Xn _ _ _ _ _ _ rfl))
 obtain⟨⟨m0,m1,m2,m3⟩,⟨u0,u1⟩,⟨c0,c1,c2⟩,⟨f0,f1,f2⟩,ah,aC⟩:=KB.out W0 (Qg _ _);have au:=hid ah;clear ah;unfold maxLen at aG;by_cases h0:b.length=0
 ·have e0:(((b.length:Int))==0)=true:=by first|(rw[h0];rfl)|(rw[beq_eq_false_iff_ne];omega)
  have C:=hid (C1.out h0 W0 au.out);clear C1 C2 h0;go_enter Tryz.func82,Tryz.ntmps82
  go_wp2_with fail
  refine C.out.mono ?_;intro e w1 h;obtain⟨v1,rfl,ae,aj⟩:∃v,e=.returned (.tuple #[.agg #[v,.int .i64 x,.int .i64 y],.int .i64 er])/\Z0 w1 (fun k=>W0.heap.size<=k/\k<w1.heap.size) m v/\Below W0.heap.size W0 w1:=h;clear m0 m1 m2 m3 u0 u1 c0 c1 c2 f0 f1 f2 aC;obtain⟨Am,cm,rfl⟩:=ae.form;obtain⟨_,_,ax,⟨f0,f1,f2⟩,aa,aF⟩:=KB.out w1 aj;have az:=hid ae;have ag:=hid aa;have ak:Hid (w.heap.size+2<W0.heap.size):=(KB.out W0 (Qg _ _)).2.2.2.2.2;obtain⟨c0,c1,c2⟩:=ax;have af:=hid (Qh c0 (Qh c1 c2));clear aj aa ae
  go_wp2_with fail
  generalize hW:((w1.setCell _ (.slice Am m.length cm)).setCell _ (.int .i64 x)).setCell _ (.int .i64 y)=W;obtain⟨⟨r0,r1,r2⟩,rz,rb,ro⟩:=three af.out.1 af.out.2.1 af.out.2.2 _ _ _ hW.symm;have aB:=hid (rb w.heap.size w (by omega) ag.out);have aA:Hid (Z0 W (fun k=>w.heap.size<=k/\k<W.heap.size) m (.slice Am m.length cm)):=by
   refine az.out.keep (fun p hp=>ro p ?_) (fun j hj=>?_)
   ·have:=hp.1;have:=ak.out;omega
   have:=hj.1;have:=hj.2;have:=ak.out;exact⟨by omega,by omega⟩
  clear hW ro rb;refine bodyPost_ret (v:=.tuple #[.agg #[.slice Am m.length cm,.int .i64 x,.int .i64 y],.int .i64 er]) (by simp[results,Tryz.results82,go_sem,r0,r1,r2]) rfl ?_;exact⟨_,rfl,aA.out,aB.out⟩
 have e0:(((b.length:Int))==0)=false:=by first|(rw[h0];rfl)|(rw[beq_eq_false_iff_ne];omega)
 have C:=hid (C2.out h0 W0 au.out);clear C1 C2 h0;go_enter Tryz.func82,Tryz.ntmps82
 go_wp2_with fail
 refine C.out.mono ?_;intro e w1 h;obtain⟨v1,rfl,ae,aj⟩:∃v,e=.returned (.tuple #[.agg #[v,.int .i64 x,.int .i64 y],.int .i64 er])/\Z0 w1 (fun k=>W0.heap.size<=k/\k<w1.heap.size) m v/\Below W0.heap.size W0 w1:=h;clear m0 m1 m2 m3 u0 u1 c0 c1 c2 f0 f1 f2 aC;obtain⟨Am,cm,rfl⟩:=ae.form;obtain⟨_,_,ax,⟨f0,f1,f2⟩,aa,aF⟩:=KB.out w1 aj;have az:=hid ae;have ag:=hid aa;have ak:Hid (w.heap.size+2<W0.heap.size):=(KB.out W0 (Qg _ _)).2.2.2.2.2;obtain⟨c0,c1,c2⟩:=ax;have af:=hid (Qh c0 (Qh c1 c2));clear aj aa ae
 go_wp2_with fail
 generalize hW:((w1.setCell _ (.slice Am m.length cm)).setCell _ (.int .i64 x)).setCell _ (.int .i64 y)=W;obtain⟨⟨r0,r1,r2⟩,rz,rb,ro⟩:=three af.out.1 af.out.2.1 af.out.2.2 _ _ _ hW.symm;have aB:=hid (rb w.heap.size w (by omega) ag.out);have aA:Hid (Z0 W (fun k=>w.heap.size<=k/\k<W.heap.size) m (.slice Am m.length cm)):=by
  refine az.out.keep (fun p hp=>ro p ?_) (fun j hj=>?_)
  ·have:=hp.1;have:=ak.out;omega
  have:=hj.1;have:=hj.2;have:=ak.out;exact⟨by omega,by omega⟩
 clear hW ro rb;refine bodyPost_ret (v:=.tuple #[.agg #[.slice Am m.length cm,.int .i64 x,.int .i64 y],.int .i64 er]) (by simp[results,Tryz.results82,go_sem,r0,r1,r2]) rfl ?_;exact⟨_,rfl,aA.out,aB.out⟩
def WG (t:Z9) (p:List Int) (l:List Z9):Z9×Int :=
 if ZU t=false then (ZN,1) else if (ZP t p).2=false then (ZN,8) else if ZU (Z7 l)=false then (ZN,4) else if ZU (ZV t p l)=false then (ZN,6) else (ZV t p l,0)
def FB (W:World) (b:Nat) (x0 x1 x2 x3:Value):Prop:=(W.cell? ⟨b,0,none⟩=some x0/\W.cell? ⟨b,1,none⟩=some x1/\W.cell? ⟨b,2,none⟩=some x2/\W.cell? ⟨b,3,none⟩=some x3)/\(W.frozen? ⟨b,0,none⟩=false/\W.frozen? ⟨b,1,none⟩=false/\W.frozen? ⟨b,2,none⟩=false/\W.frozen? ⟨b,3,none⟩=false)
theorem FB.new (w:World) (x0 x1 x2 x3:Value) (T:TypeId) {b:Nat} (hb:b=w.heap.size):FB (w.alloc (.cells #[x0,x1,x2,x3] T)) b x0 x1 x2 x3:=by
 subst hb;exact⟨⟨ZT _ _ _ _ _ rfl,ZT _ _ _ _ _ rfl,ZT _ _ _ _ _ rfl,ZT _ _ _ _ _ rfl⟩,XG _ _ _ _ _ rfl,XG _ _ _ _ _ rfl,XG _ _ _ _ _ rfl,XG _ _ _ _ _ rfl⟩
theorem FB.below {W W':World} {B b:Nat} {x0 x1 x2 x3:Value} (h:FB W b x0 x1 x2 x3) (hb:Below B W W') (hB:b<B):FB W' b x0 x1 x2 x3 :=
 ⟨⟨(hb.cell (p:=⟨b,0,none⟩) hB).trans h.1.1,(hb.cell (p:=⟨b,1,none⟩) hB).trans h.1.2.1,(hb.cell (p:=⟨b,2,none⟩) hB).trans h.1.2.2.1,(hb.cell (p:=⟨b,3,none⟩) hB).trans h.1.2.2.2⟩,(hb.frozen (p:=⟨b,0,none⟩) hB).trans h.2.1,(hb.frozen (p:=⟨b,1,none⟩) hB).trans h.2.2.1,(hb.frozen (p:=⟨b,2,none⟩) hB).trans h.2.2.2.1,(hb.frozen (p:=⟨b,3,none⟩) hB).trans h.2.2.2.2⟩
theorem WT.keepB {W W':World} {T:Nat->Prop} {B:Nat} (hb:Below B W W') (hT:∀k,T k->k<B) {g o g' o':Nat} {t:Z9} {p:List Nat} (hg:g<B) (h:WT W T g o t p g' o'):WT W' T g o t p g' o':=by
 induction h with
 |here g o t=>exact .here g o t
 |step g o t i p b x c hi g' o' h1 h2 h3 ih=>exact .step g o t i p b x c hi g' o' ((hb.cell (p:=⟨g,o+3,none⟩) hg).trans h1) h2 (ih (hT _ h2))
theorem VH (t:Z9) (p:List Int) (l:List Z9) (A Ap Al:Option Addr) (cap cp cl:Nat) (w:World) (hv:Z8 Z6 w (Lt w.heap.size) t.kids (.slice A t.kids.length cap)) (av:Zk t) (dD:ZR t<=900000) (hp:Z0 w (Lt w.heap.size) p (.slice Ap p.length cp)) (hl:Z8 Z6 w (Lt w.heap.size) l (.slice Al l.length cl)) :
  Calls Tryz.prog 144 #[.agg #[.int .i64 t.kind,.string t.text,.int .i64 t.cols,.slice A t.kids.length cap],.slice Ap p.length cp,.agg #[.int .i64 1,.string ⟨#[]⟩,.int .i64 0,.slice Al l.length cl]] w (XB w (WG t p l).1 (WG t p l).2):=by
 have C1:Hid (∀W,Below w.heap.size w W->Calls Tryz.prog 53 #[.agg #[.int .i64 t.kind,.string t.text,.int .i64 t.cols,.slice A t.kids.length cap]] W fun e w'=>e=.returned (.bool (ZU t))/\Below W.heap.size W w'):=fun W hW=>Wh t A cap W (hv.below hW hW.size) av.2.2
 have C2:Hid (∀W,Below w.heap.size w W->Calls Tryz.prog 95 #[.agg #[.int .i64 t.kind,.string t.text,.int .i64 t.cols,.slice A t.kids.length cap]] W (RJ W t)):=fun W hW=>zDt t A cap W (hv.below hW hW.size) av (by omega)
 have C3:Hid (∀W T B,Below w.heap.size w W->(∀k,T k->k<W.heap.size)->B<W.heap.size->Yo W T B 0 t->Calls Tryz.prog 113 #[.pointer (some ⟨B,0,none⟩),.slice Ap p.length cp] W (RL W T B 0 t p)):=fun W T B hW hT hB hN=>zKh t p B 0 _ W T hT hB hN (hp.below hW hW.size)
 have C4:Hid (∀W,Below w.heap.size w W->Calls Tryz.prog 53 #[.agg #[.int .i64 1,.string ⟨#[]⟩,.int .i64 0,.slice Al l.length cl]] W fun e w'=>e=.returned (.bool (ZU (Z7 l)))/\Below W.heap.size W w'):=fun W hW=>Wh (Z7 l) Al cl W (hl.below hW hW.size) (zHv l).2.2
 have C5:Hid (ZU (Z7 l)=true->∀W,Below w.heap.size w W->Calls Tryz.prog 95 #[.agg #[.int .i64 1,.string ⟨#[]⟩,.int .i64 0,.slice Al l.length cl]] W fun e w'=>∃v,e=.returned (.agg #[.int .i64 1,.string ⟨#[]⟩,.int .i64 0,v])/\Z8 Z6 w' (fun k=>W.heap.size<=k/\k<w'.heap.size) l v/\Below W.heap.size W w'):=fun h9 W hW=>zDq (Z7 l) Al cl W (hl.below hW hW.size) (zHv l) (by have:=(Yb h9).1;omega)
 have C6:Hid (∀W A' c',Z8 Z6 W (Lt W.heap.size) (ZV t p l).kids (.slice A' (ZV t p l).kids.length c')->Calls Tryz.prog 53 #[.agg #[.int .i64 (ZV t p l).kind,.string (ZV t p l).text,.int .i64 (ZV t p l).cols,.slice A' (ZV t p l).kids.length c']] W fun e w'=>e=.returned (.bool (ZU (ZV t p l)))/\Below W.heap.size W w'):=fun W A' c' h=>Wh (ZV t p l) A' c' W h (zKc t p l av).2.2
 have HR:Hid (WG t p l=if ZU t=false then (ZN,1) else if (ZP t p).2=false then (ZN,8) else if ZU (Z7 l)=false then (ZN,4) else if ZU (ZV t p l)=false then (ZN,6) else (ZV t p l,0)):=rfl;have bN:=hid (Re t p);have dM:=hid av;generalize WG t p l=RES at *;generalize dE:ZU t=bv at *;generalize dF:ZU (Z7 l)=br at *;generalize dG:ZU (ZV t p l)=bp at *;clear hv dD hp hl dE dF dG av;obtain⟨W0,ak⟩:∃W0,((w.alloc (Obj.cells #[.int .i64 t.kind,.string t.text,.int .i64 t.cols,.slice A t.kids.length cap] 24)).alloc (Obj.cells #[.int .i64 1,.string ⟨#[]⟩,.int .i64 0,.slice Al l.length cl] 24)).alloc (.cells #[.int .i64 0,.string ⟨#[]⟩,.int .i64 0,.slice none 0 0] 24)=W0:=⟨_,rfl⟩;have bK:Hid (W0.heap.size=w.heap.size+1+1+1):=by show _=_;rw[<-ak];simp
 have KB:Hid (∀W,Below W0.heap.size W0 W->FB W w.heap.size (.int .i64 t.kind) (.string t.text) (.int .i64 t.cols) (.slice A t.kids.length cap)/\FB W (w.heap.size+1) (.int .i64 1) (.string ⟨#[]⟩) (.int .i64 0) (.slice Al l.length cl)/\FB W (w.heap.size+1+1) (.int .i64 0) (.string ⟨#[]⟩) (.int .i64 0) (.slice none 0 0)/\Below w.heap.size w W/\w.heap.size+3<=W.heap.size):=by
  intro W hW;have hz:W0.heap.size=w.heap.size+1+1+1:=by rw[<-ak];simp
  refine⟨FB.below (B:=W0.heap.size) ?_ hW (by omega),FB.below (B:=W0.heap.size) ?_ hW (by omega),FB.below (B:=W0.heap.size) ?_ hW (by omega),Below.trans ?_ (hW.mono (by omega)),by have:=hW.size;omega⟩
  ·rw[<-ak];exact((FB.new w _ _ _ _ _ rfl).below (ZW _ _) (by simp)).below (ZW _ _) (by simp;omega)
  ·rw[<-ak];exact(FB.new _ _ _ _ _ _ (by simp)).below (ZW _ _) (by simp)
  ·rw[<-ak];exact FB.new _ _ _ _ _ _ (by simp)
  rw[<-ak];exact Zy (Zy (ZW _ _) _) _
 obtain⟨⟨⟨m0,m1,m2,m3⟩,_⟩,⟨⟨n0,n1,n2,n3⟩,_⟩,⟨⟨c0,c1,c2,c3⟩,⟨f0,f1,f2,f3⟩⟩,aI,dz⟩:=KB.out W0 (Qg _ _);have bR:=hid aI;clear aI;go_enter Tryz.func144,Tryz.ntmps144
 go_wp2_with fail
 refine(C1.out _ bR.out).mono ?_;rintro e w1 ⟨rfl,bA⟩;clear m0 m1 m2 m3 n0 n1 n2 n3 c0 c1 c2 c3 f0 f1 f2 f3 dz;have aP:=hid bA;obtain⟨⟨⟨m0,m1,m2,m3⟩,_⟩,⟨⟨n0,n1,n2,n3⟩,_⟩,⟨⟨c0,c1,c2,c3⟩,⟨f0,f1,f2,f3⟩⟩,aH,hz1⟩:=KB.out w1 bA;have aO:=hid aH;clear bA aH;cases bv
 ·have HC:=hid (Qh c0 (Qh c1 (Qh c2 c3)))
  go_wp2_with fail
  generalize hW:(((w1.setCell _ (.int .i64 0)).setCell _ (.string ⟨#[]⟩)).setCell _ (.int .i64 0)).setCell _ (.slice none 0 0)=W;obtain⟨⟨r0,r1,r2,r3⟩,rz,rb,ro,_⟩:=four HC.out.1 HC.out.2.1 HC.out.2.2.1 HC.out.2.2.2 _ _ _ _ hW.symm;have aa:=hid (rb w.heap.size w (by omega) aO.out);clear hW ro rb;refine bodyPost_ret (v:=.tuple #[.agg #[.int .i64 0,.string ⟨#[]⟩,.int .i64 0,.slice none 0 0],.int .i64 1]) (by simp[results,Tryz.results144,go_sem,r0,r1,r2,r3]) rfl ?_;rw[HR.out];exact⟨_,rfl,Z8.nil_ 0 (Qj _) none,aa.out⟩
 go_wp2_with fail
 refine(C2.out _ aO.out).mono ?_;rintro e w2 ⟨v,T,rfl,aS,hT,aZ,ay,af,_⟩;obtain⟨A4,c4,rfl⟩:=aZ.form;obtain⟨W3,aJ⟩:∃W3,w2.alloc (Obj.cells #[.int .i64 t.kind,.string t.text,.int .i64 t.cols,.slice A4 t.kids.length c4] 24)=W3:=⟨_,rfl⟩;have aj:Below w2.heap.size w2 W3:=by rw[<-aJ];exact ZW _ _
 have bJ:Hid (Below W0.heap.size W0 W3):=aP.out.trans ((aS.trans (aj.mono aS.size)).mono aP.out.size);have ah:∀k,T k->k<W3.heap.size:=fun k hk=>Qk (hT k hk).2 aj.size
 have cZ:¬T w2.heap.size:=fun h=>absurd (hT _ h).2 (Nat.lt_irrefl _)
 have au:FB W3 w2.heap.size (.int .i64 t.kind) (.string t.text) (.int .i64 t.cols) (.slice A4 t.kids.length c4):=by rw[<-aJ];exact FB.new _ _ _ _ _ _ rfl
 have bD:Yo W3 T w2.heap.size 0 t:=⟨_,⟨au.1.1,au.1.2.1,au.1.2.2.1,au.1.2.2.2⟩,dM.out,aZ.keep (fun q hq=>aj.cell (hT _ hq).2) (fun _ h=>h)⟩;have aT:w2.heap.size<W3.heap.size:=Y0 au.1.1;have h02:W0.heap.size<=w2.heap.size:=Qf aP.out.size aS.size;have KC:Hid (∀W,Below W3.heap.size W3 W->Xb W T/\(∀k,T k->k<W.heap.size)/\Yo W T w2.heap.size 0 t):=fun W hW=>by
  obtain⟨u,aX,aW,aV⟩:=bD;exact⟨(ay.keep (fun q hq=>aj.cell (hT _ hq).2)).keep (fun q hq=>hW.cell (ah _ hq)),fun k hk=>Qk (ah k hk) hW.size,u,aX.keep (fun j _=>hW.cell (p:=⟨w2.heap.size,_,none⟩) aT),aW,aV.keep (fun q hq=>hW.cell (ah _ hq)) (fun _ h=>h)⟩
 have KF:Hid (∀W g o t',Below W3.heap.size W3 W->Yo W3 T g o t'->WT W3 T w2.heap.size 0 t (p.map Int.toNat) g o->Yo W T g o t'/\WT W T w2.heap.size 0 t (p.map Int.toNat) g o/\(∀j,W.frozen? ⟨g,j,none⟩=false)/\W0.heap.size<=g/\g<W3.heap.size):=fun W g o t' hW hN hL=>by
  have hg:(g=w2.heap.size/\∀j,W3.frozen? ⟨g,j,none⟩=false)\/T g:=by
   rcases hL.where_ with ⟨_,h,_⟩|h
   ·exact .inl ⟨h,fun j=>by rw[h,<-aJ];exact XG _ _ _ _ _ rfl⟩
   exact .inr h.mem
  have aR:g<W3.heap.size:=hg.elim (fun h=>by rw[h.1];exact aT) (fun h=>ah _ h);obtain⟨u,aX,aW,aV⟩:=hN;refine⟨⟨u,aX.keep (fun j _=>hW.cell (p:=⟨g,_,none⟩) aR),aW,aV.keep (fun q hq=>hW.cell (ah _ hq)) (fun _ h=>h)⟩,WT.keepB hW ah aT hL,fun j=>(hW.frozen (p:=⟨g,j,none⟩) aR).trans ?_,?_,aR⟩
  ·rcases hg with ⟨_,h⟩|h
   ·exact h j
   exact(aj.frozen (p:=⟨g,j,none⟩) (hT _ h).2).trans (af g h j)
  rcases hg with ⟨h,_⟩|h
  ·omega
  exact Qf aP.out.size (hT _ h).1
 have di:=hid ah;have dR:=hid cZ;have dJ:Hid (∀k,T k->w1.heap.size<=k):=fun k hk=>(hT k hk).1
 have HTW:Hid (∀k,T k->k<w2.heap.size):=fun k hk=>(hT k hk).2
 have dN:=hid bD;clear m0 m1 m2 m3 n0 n1 n2 n3 c0 c1 c2 c3 f0 f1 f2 f3 aS aZ ay af aj au bD hT ah cZ;obtain⟨⟨⟨m0,m1,m2,m3⟩,_⟩,⟨⟨n0,n1,n2,n3⟩,_⟩,⟨⟨c0,c1,c2,c3⟩,⟨f0,f1,f2,f3⟩⟩,aG,hz3⟩:=KB.out W3 bJ.out;have bQ:=hid aG;clear aG
 go_upto_region 4 with fail
 try rw[aJ]
 clear aJ
 go_wp2_with fail
 refine(C3.out W3 T w2.heap.size bQ.out di.out aT dN.out).mono ?_;rintro e w4 ⟨⟨nd,bY⟩,aA⟩;have bz:Below W3.heap.size W3 w4:=by rw[bY];exact Sj (Qg _ _)
 have dx:=hid bz;have bI:=hid (bJ.out.trans (bz.mono bJ.out.size));clear m0 m1 m2 m3 n0 n1 n2 n3 c0 c1 c2 c3 f0 f1 f2 f3;obtain⟨⟨⟨m0,m1,m2,m3⟩,_⟩,⟨⟨n0,n1,n2,n3⟩,_⟩,⟨⟨c0,c1,c2,c3⟩,⟨f0,f1,f2,f3⟩⟩,aF,hz4⟩:=KB.out w4 bI.out;have aN:=hid aF;clear bz aF bY;rcases aA with ⟨dB,q,rfl⟩|⟨t',g,o,bZ,rfl,cO,ax⟩
 ·have HF:Hid ((ZP t p).2=false):=by
   have h:=bN.out;rw[dB] at h;cases hf:(ZP t p).2
   ·exact rfl
   rw[hf] at h;simp at h
  rw[if_neg (by simp),if_pos HF.out] at HR;have HC:=hid (Qh c0 (Qh c1 (Qh c2 c3)))
  go_wp2_with fail
  generalize hW:(((w4.setCell _ (.int .i64 0)).setCell _ (.string ⟨#[]⟩)).setCell _ (.int .i64 0)).setCell _ (.slice none 0 0)=W;obtain⟨⟨r0,r1,r2,r3⟩,rz,rb,ro,_⟩:=four HC.out.1 HC.out.2.1 HC.out.2.2.1 HC.out.2.2.2 _ _ _ _ hW.symm;have aa:=hid (rb w.heap.size w (by omega) aN.out);clear hW ro rb;refine bodyPost_ret (v:=.tuple #[.agg #[.int .i64 0,.string ⟨#[]⟩,.int .i64 0,.slice none 0 0],.int .i64 8]) (by simp[results,Tryz.results144,go_sem,r0,r1,r2,r3]) rfl ?_;rw[HR.out];exact⟨_,rfl,Z8.nil_ 0 (Qj _) none,aa.out⟩
 have HF:Hid ((ZP t p).2=true):=by
  have h:=bN.out;rw[bZ] at h;cases hf:(ZP t p).2
  ·rw[hf] at h;simp at h
  exact rfl
 rw[if_neg (by simp),if_neg (by rw[HF.out];simp)] at HR;have dO:=hid cO;have bM:=hid ax;clear cO ax bZ bN
 go_wp2_with fail
 refine(C4.out _ aN.out).mono ?_;rintro e w5 ⟨rfl,bu⟩;have bU:=hid (dx.out.trans (bu.mono dx.out.size));have aU:=hid (bI.out.trans (bu.mono bI.out.size));clear m0 m1 m2 m3 n0 n1 n2 n3 c0 c1 c2 c3 f0 f1 f2 f3;obtain⟨⟨⟨m0,m1,m2,m3⟩,_⟩,⟨⟨n0,n1,n2,n3⟩,_⟩,⟨⟨c0,c1,c2,c3⟩,⟨f0,f1,f2,f3⟩⟩,aD,hz5⟩:=KB.out w5 aU.out;have aM:=hid aD;clear bu aD;cases br
 ·rw[if_pos rfl] at HR;have HC:=hid (Qh c0 (Qh c1 (Qh c2 c3)))
  go_wp2_with fail
  generalize hW:(((w5.setCell _ (.int .i64 0)).setCell _ (.string ⟨#[]⟩)).setCell _ (.int .i64 0)).setCell _ (.slice none 0 0)=W;obtain⟨⟨r0,r1,r2,r3⟩,rz,rb,ro,_⟩:=four HC.out.1 HC.out.2.1 HC.out.2.2.1 HC.out.2.2.2 _ _ _ _ hW.symm;have aa:=hid (rb w.heap.size w (by omega) aM.out);clear hW ro rb;refine bodyPost_ret (v:=.tuple #[.agg #[.int .i64 0,.string ⟨#[]⟩,.int .i64 0,.slice none 0 0],.int .i64 4]) (by simp[results,Tryz.results144,go_sem,r0,r1,r2,r3]) rfl ?_;rw[HR.out];exact⟨_,rfl,Z8.nil_ 0 (Qj _) none,aa.out⟩
 rw[if_neg (by simp)] at HR
 go_wp2_with fail
 refine(C5.out (by trivial) _ aM.out).mono ?_;rintro e w6 ⟨v6,rfl,aY,bq⟩;have dw:=hid (bU.out.trans (bq.mono bU.out.size));have dh:=hid (aU.out.trans (bq.mono aU.out.size));have dH:=bU.out.size;have dA:=aU.out.size;have dL:=hid aY;obtain⟨A6,c6,rfl⟩:=aY.form;clear bq aY;obtain⟨cu,bB,cK⟩:=KC.out w6 dw.out;obtain⟨bC,ae,az,dC,aR⟩:=KF.out w6 g o t' dw.out dO.out bM.out;have z0:=az o;have z1:=az (o+1);have z2:=az (o+2);have z3:=az (o+3);obtain⟨u6,⟨d0,d1,d2,d3⟩,bW⟩:=bC;have bL:Hid (Yo w6 T g o t'):=⟨u6,⟨d0,d1,d2,d3⟩,bW⟩;have dm:=hid (zPx (T':=fun k=>W0.heap.size<=k/\k<w6.heap.size) (W':=(((w6.setCell ⟨g,o,none⟩ (.int .i64 1)).setCell ⟨g,o+1,none⟩ (.string ⟨#[]⟩)).setCell ⟨g,o+2,none⟩ (.int .i64 0)).setCell ⟨g,o+3,none⟩ (.slice A6 l.length c6)) (l:=l) cu bB dR.out cK HF.out ae bL.out dL.out (fun q hq=>⟨fun h=>by have:=di.out q h;have:=hq.1;omega,by have:=hq.1;omega,hq.2⟩) (fun k hk=>⟨Qf aP.out.size (dJ.out k hk),bB k hk⟩) (fun k hk=>⟨by have:=dA;have:=hk.1;omega,hk.2⟩) rfl);have bG:Hid (((((w6.setCell ⟨g,o,none⟩ (.int .i64 1)).setCell ⟨g,o+1,none⟩ (.string ⟨#[]⟩)).setCell ⟨g,o+2,none⟩ (.int .i64 0)).setCell ⟨g,o+3,none⟩ (.slice A6 l.length c6)).heap.size=w6.heap.size):=by show _=_;simp[World.setCell]
 obtain⟨_,_,cB,_,_,_⟩:=Xy d0 d1 d2 d3 (.int .i64 1) (.string ⟨#[]⟩) (.int .i64 0) (.slice A6 l.length c6) (W:=(((w6.setCell ⟨g,o,none⟩ (.int .i64 1)).setCell ⟨g,o+1,none⟩ (.string ⟨#[]⟩)).setCell ⟨g,o+2,none⟩ (.int .i64 0)).setCell ⟨g,o+3,none⟩ (.slice A6 l.length c6)) rfl;have bH:=hid (cB W0.heap.size W0 dC dh.out);clear cu bB cK ae az bW cB dH;clear m0 m1 m2 m3 n0 n1 n2 n3 c0 c1 c2 c3 f0 f1 f2 f3;obtain⟨⟨⟨m0,m1,m2,m3⟩,_⟩,⟨⟨n0,n1,n2,n3⟩,_⟩,⟨⟨c0,c1,c2,c3⟩,⟨f0,f1,f2,f3⟩⟩,bn,hz6⟩:=KB.out w6 dh.out;clear bn
 go_upto_region 10 with fail
 generalize (((w6.setCell ⟨g,o,none⟩ (.int .i64 1)).setCell ⟨g,o+1,none⟩ (.string ⟨#[]⟩)).setCell ⟨g,o+2,none⟩ (.int .i64 0)).setCell ⟨g,o+3,none⟩ (.slice A6 l.length c6)=W7 at *;obtain⟨vR,⟨e0,e1,e2,e3⟩,bg,aQ⟩:=dm.out;obtain⟨AR,cR,rfl⟩:=aQ.form;simp only[Nat.zero_add] at e1 e2 e3
 try clear m0 m1 m2 m3 n0 n1 n2 n3 c0 c1 c2 c3 f0 f1 f2 f3
 obtain⟨⟨⟨m0,m1,m2,m3⟩,_⟩,⟨⟨n0,n1,n2,n3⟩,_⟩,⟨⟨c0,c1,c2,c3⟩,⟨f0,f1,f2,f3⟩⟩,aC,hz7⟩:=KB.out W7 bH.out;have dQ:=hid aC;have dK:=hid aQ;have dP:=hid (C6.out W7 AR cR (aQ.keep (fun _ _=>rfl) (fun k hk=>by unfold Lt;rw[bG.out];exact hk.2)));generalize ZV t p l=R at *;clear aC aQ bg z0 z1 z2 z3 d0 d1 d2 d3 dm C1 C2 C3 C4 C5 C6
 go_wp2_with fail
 refine dP.out.mono ?_;rintro e w8 ⟨rfl,ag⟩;have dI:=hid (bH.out.trans (ag.mono bH.out.size));have dn:=hid ag;clear m0 m1 m2 m3 n0 n1 n2 n3 c0 c1 c2 c3 f0 f1 f2 f3;obtain⟨⟨⟨m0,m1,m2,m3⟩,_⟩,⟨⟨n0,n1,n2,n3⟩,_⟩,⟨⟨c0,c1,c2,c3⟩,⟨f0,f1,f2,f3⟩⟩,aB,hz8⟩:=KB.out w8 dI.out;have aL:=hid aB;clear aB;cases bp
 ·rw[if_pos rfl] at HR;clear e0 e1 e2 e3 ag;have HC:=hid (Qh c0 (Qh c1 (Qh c2 c3)))
  go_wp2_with fail
  generalize hW:(((w8.setCell _ (.int .i64 0)).setCell _ (.string ⟨#[]⟩)).setCell _ (.int .i64 0)).setCell _ (.slice none 0 0)=W;obtain⟨⟨r0,r1,r2,r3⟩,rz,rb,ro,_⟩:=four HC.out.1 HC.out.2.1 HC.out.2.2.1 HC.out.2.2.2 _ _ _ _ hW.symm;have aa:=hid (rb w.heap.size w (by omega) aL.out);clear hW ro rb;refine bodyPost_ret (v:=.tuple #[.agg #[.int .i64 0,.string ⟨#[]⟩,.int .i64 0,.slice none 0 0],.int .i64 6]) (by simp[results,Tryz.results144,go_sem,r0,r1,r2,r3]) rfl ?_;rw[HR.out];exact⟨_,rfl,Z8.nil_ 0 (Qj _) none,aa.out⟩
 rw[if_neg (by simp)] at HR
 replace e0:=(ag.cell (p:=⟨w2.heap.size,0,none⟩) (Y0 e0)).trans e0
 replace e1:=(ag.cell (p:=⟨w2.heap.size,1,none⟩) (Y0 e1)).trans e1
 replace e2:=(ag.cell (p:=⟨w2.heap.size,2,none⟩) (Y0 e2)).trans e2
 replace e3:=(ag.cell (p:=⟨w2.heap.size,3,none⟩) (Y0 e3)).trans e3
 clear ag;have HC:=hid (Qh c0 (Qh c1 (Qh c2 c3)));have aK:W0.heap.size=w.heap.size+1+1+1:=bK.out;have df:=hid aK;clear aK
 go_wp2_with fail
 generalize hW:(((w8.setCell _ (.int .i64 R.kind)).setCell _ (.string R.text)).setCell _ (.int .i64 R.cols)).setCell _ (.slice AR R.kids.length cR)=W;obtain⟨⟨r0,r1,r2,r3⟩,rz,rb,ro,_⟩:=four HC.out.1 HC.out.2.1 HC.out.2.2.1 HC.out.2.2.2 _ _ _ _ hW.symm;have aa:=hid (rb w.heap.size w (by omega) aL.out);have bP:Hid (Z8 Z6 W (fun k=>w.heap.size<=k/\k<W.heap.size) R.kids (.slice AR R.kids.length cR)):=dK.out.keep (fun q hq=>(ro q (by have:=hq.1;have:=df.out;omega)).trans (dn.out.cell (by rw[bG.out];exact hq.2))) (fun k hk=>⟨by have:=hk.1;have:=df.out;omega,by rw[rz];have:=dn.out.size;rw[bG.out] at this;exact Qk hk.2 this⟩);clear hW ro rb;refine bodyPost_ret (v:=.tuple #[.agg #[.int .i64 R.kind,.string R.text,.int .i64 R.cols,.slice AR R.kids.length cR],.int .i64 0]) (by simp[results,Tryz.results144,go_sem,r0,r1,r2,r3]) rfl ?_;rw[HR.out];exact⟨_,rfl,bP.out,aa.out⟩
