/- T -/
import Derived.Test.YthpngeboknmllaaGreatQf786
import Derived.Test.YthpngeboknmllaaGreatQ9bc4
set_option linter.unusedVariables false
set_option linter.unusedSimpArgs false
set_option maxHeartbeats 4000000
set_option maxRecDepth 100000
namespace Go.Proofs.YthpngeboknmllaaGreat
open Go.RowKit
theorem zQl (op:ZB) (l:List Z9) (a b lr s:Nat) (t0:Z9) (L0:List Z9) (Ar An A:Option Addr) (cr cn cap:Nat) (w:World) (S:Nat->Prop) (hS:∀q,S q->q<w.heap.size) (hl:Z8 Z7 w S l (.slice A l.length cap)) (hn:Z8 Z7 w S op.nodes (.slice An op.nodes.length cn))
  (cu:op.nodes=[t0]) (hs:op.slot=s) (bY:s<t0.kids.length) (bA:t0.kids[s]=Z6 L0) (bB:ZW t0<=1000000) (ha:op.at_=a) (hb:op.at_+op.n=b) (bH:a<=b) (aO:b<=l.length) (cB:l.length<=400000) :
  Calls Tryz.prog 164 #[.agg (YE op (.slice Ar lr cr) (.slice An op.nodes.length cn) (.slice A l.length cap))] w (XB S w (Zk l a b [Zp t0 s ((l.take b).drop a)],0)):=by
 obtain⟨W0,hW0,hz,KB⟩:=RY op (.slice Ar lr cr) (.slice An op.nodes.length cn) (.slice A l.length cap) w;have aU:=hid KB;obtain⟨⟨⟨m0,m1,m2,m3,m4,m5,m6,m7⟩,m8⟩,aj⟩:=KB W0 (QQ _ _);have bN:=hid aj;have bu:=RB hl;obtain⟨A1,hsl,hcut⟩:=RZ Z7 Tryz.underlying22 VZ A l.length cap op.at_ (op.at_+op.n) a b ha hb bH aO bu;have aD:((l.take b).drop a).length=b-a:=by simp;omega
 have v1:IntKind.i64.wrap (op.at_+op.n)=op.at_+op.n:=IntWalk.i64_in _ (by omega);have aN:∀W,Below w.heap.size w W->Z8 Z7 W S l (.slice A l.length cap):=fun W hW=>YH hl hS hW
 have HLW:=hid aN;have CC:Hid (∀W,Below w.heap.size w W->Calls Tryz.prog 174 #[.slice A1 (b-a) (cap-a)] W (XN S W ((l.take b).drop a))):=fun W hW=>by
  have h:=zO4 ((l.take b).drop a) W (.slice A1 (b-a) (cap-a)) S (fun q hq=>QV (hS q hq) hW.size) (hcut _ _ _ (aN W hW)) (by rw[aD];omega);exact h
 have hJ:∀W gg v5 (R:Z9),Zt R->Below w.heap.size w W->gg=W.heap.size->Z8 Z7 W (fun q=>S q\/w.heap.size<=q/\q<W.heap.size) R.kids v5->Calls Tryz.prog 171 #[.agg (YE op (.slice Ar lr cr) (.slice An op.nodes.length cn) (.slice A l.length cap)),.int .i64 op.n,.slice (some ⟨gg,0,none⟩) 1 1] (W.alloc (Obj.cells #[.int .i64 R.kind,.string R.text,.int .i64 R.cols,v5] 24)) (XN S w (Zk l a b [R])):=fun W gg v5 R bZ hW cK hr=>by
  subst cK;have aQ:a<=l.length:=by omega
  obtain⟨k,x,c,ts⟩:=R;have h9:=hW.trans ((ZX W (Obj.cells #[.int .i64 k,.string x,.int .i64 c,v5] 24)).mono hW.size);have bI:∀q,(S q\/w.heap.size<=q/\q<W.heap.size)->q<W.heap.size:=fun q hq=>by
   rcases hq with hq|hq
   ·exact QV (hS q hq) hW.size
   exact hq.2
  exact(Rk op l [.mk k x c ts] op.n a b lr Ar A _ (.slice An op.nodes.length cn) cr cap 1 _ (fun q=>(S q\/w.heap.size<=q/\q<W.heap.size)\/q=W.heap.size) (fun q hq=>by
   rcases hq with hq|rfl
   ·exact QV (bI q hq) (by simp)
   simp) ((YH hl hS h9).keep (fun _ _=>rfl) (fun _ h=>.inl (.inl h))) (Uk bI bZ hr) ha (by omega) aQ aO (by simp;omega)).mono fun e w' h=>h.wide (fun q hq=>by
   rcases hq with (hq|hq)|rfl
   ·exact .inl hq
   ·exact .inr ⟨hq.1,by simp;omega⟩
   exact .inr ⟨hW.size,by simp⟩) h9
 have HJ:=hid hJ;obtain⟨kind,row,at_,n,nodes,slot,old,text⟩:=op;simp only[YE] at *;subst cu hs;obtain⟨_,_,rs0,hq,_,_,ay,aB⟩:=hn;cases hq;obtain⟨g0,o0,A0,c0,bP,rfl,cO,bg,aZ,aY,aX,b1,b2,b3,b4,b5,ax,aA⟩:=Y5 ay aB (k:=0) (by simp);simp only[Nat.zero_mul,Nat.add_zero,List.getElem_cons_zero,List.length_cons,List.length_nil,Nat.zero_add] at *;have af:Zt t0:=⟨b1,b2,b3⟩;have av:Z8 Z7 w S t0.kids (.slice A0 t0.kids.length c0):=⟨_,_,bP,rfl,b4,b5,ax,aA⟩;have aa:g0<w.heap.size:=hS g0 cO;have q0:=(aj.cell (p:=⟨g0,_,none⟩) aa).trans bg;have q1:=(aj.cell (p:=⟨g0,_,none⟩) aa).trans aZ;have q2:=(aj.cell (p:=⟨g0,_,none⟩) aa).trans aY;have q3:=(aj.cell (p:=⟨g0,_,none⟩) aa).trans aX;have CD:=hid (zDt t0 A0 c0 W0 (UM av hS aj) af bB);have i0:(0:Int)<=(s:Int):=by omega
 have i1:(s:Int)<(t0.kids.length:Int):=by omega
 obtain⟨L,hL⟩:∃L,L=(l.take b).drop a:=⟨_,rfl⟩;rw[<-hL] at CC ⊢;generalize b-a=n2 at *;have dx:=hid bA;have aW:=hid af;have bL:=hid bY;have dm:=hid hS;clear hl hS KB aj hcut aD bu aN hJ ay aB ax aA bg aZ aY aX b1 b2 b3 b4 b5 av ha hb bH aO cB bB hL bA af;go_enter Tryz.func164,Tryz.ntmps164
 go_wp2_with fail
 refine CD.out.mono ?_;rintro e w1 ⟨v,T,rfl,aP,hT,aM,aC,ae,_⟩;obtain⟨bb,x,c,rfl,ag⟩:=zGo aM (by omega);obtain⟨W1,aH⟩:∃W1,w1.alloc (Obj.cells #[.int .i64 t0.kind,.string t0.text,.int .i64 t0.cols,.slice (some ⟨bb,x,none⟩) t0.kids.length c] 24)=W1:=⟨_,rfl⟩;obtain⟨B,hB⟩:∃B,B=w1.heap.size:=⟨_,rfl⟩;have au:Below w1.heap.size w1 W1:=by rw[<-aH];exact ZX _ _
 have aJ:Below W0.heap.size W0 W1:=aP.trans (au.mono aP.size);have aS:¬T B:=fun h=>by have:=(hT B h).2;omega
 have hne:bb≠B:=fun e=>aS (e ▸ ag)
 have bK:YA W1 T B 0 t0:=⟨_,by refine⟨?_,?_,?_,?_⟩<;>(rw[hB,<-aH,World.cell?_alloc_new];rfl),aW.out,aM.keep (fun q hq=>au.cell (hT _ hq).2) (fun _ h=>h)⟩;have aT:W1.cell? ⟨B,3,none⟩=some (.slice (some ⟨bb,x,none⟩) t0.kids.length c):=by rw[hB,<-aH,World.cell?_alloc_new];rfl
 have ah:B<W1.heap.size:=Y2 aT
 -- all that later worlds keep
 have KC:Hid (∀W,Below W1.heap.size W1 W->Xh W T/\(∀k,T k->k<W.heap.size)/\YA W T B 0 t0/\W.cell? ⟨B,3,none⟩=some (.slice (some ⟨bb,x,none⟩) t0.kids.length c)/\(∃u,W.cell? ⟨bb,x+s*4+3,none⟩=some u)/\W.frozen? ⟨bb,x+s*4+3,none⟩=false):=fun W hW=>by
  have aK:∀k,T k->k<W1.heap.size:=fun k hk=>QV (hT k hk).2 au.size
  have h1:=(aC.keep (fun q hq=>au.cell (hT _ hq).2)).keep (W':=W) (fun q hq=>hW.cell (aK _ hq));obtain⟨u,bU,bR,bQ⟩:=bK;have h3:YA W T B 0 t0:=⟨u,bU.keep (fun j _=>hW.cell (p:=⟨B,_,none⟩) ah),bR,bQ.keep (fun q hq=>hW.cell (aK _ hq)) (fun _ h=>h)⟩;have h4:=(hW.cell (p:=⟨B,3,none⟩) ah).trans aT;obtain⟨u2,⟨_,_,_,k3⟩,_⟩:=Sa h3 (by simpa using h4) bL.out;exact⟨h1,fun k hk=>QV (aK k hk) hW.size,h3,h4,⟨u2,k3⟩,(hW.frozen (p:=⟨bb,_,none⟩) (aK _ ag)).trans ((au.frozen (p:=⟨bb,_,none⟩) (hT _ ag).2).trans (ae bb ag _))⟩
 have KD:Hid (∀W,Below W1.heap.size W1 W->Below W0.heap.size W0 W):=fun W hW=>aJ.trans (hW.mono aJ.size)
 have dh:Hid (∀k,T k->W0.heap.size<=k):=fun k hk=>(hT k hk).1
 have ak:Hid (W0.heap.size<=bb/\bb<w1.heap.size):=hT bb ag;obtain⟨⟨⟨m0,m1,m2,m3,m4,m5,m6,m7⟩,m8⟩,aF⟩:=aU.out W1 aJ;have bM:=hid aF;have aV:=hid ag;have n1:¬w.heap.size=bb:=by have:=ak.out.1;omega
 have n2':¬bb=w.heap.size:=by have:=ak.out.1;omega
 have n3:¬w1.heap.size=bb:=by have:=ak.out.2;omega
 have n4:¬bb=w1.heap.size:=by have:=ak.out.2;omega
 have dz:=hid aS;obtain⟨_,_,_,_,⟨u5,k5⟩,f5⟩:=KC.out W1 (QQ _ _);clear aM aC ae bK aP au aJ hT ag aS aF;subst hB
 go_upto_region 2 with fail
 try rw[aH]
 clear aH
 go_wp2_with fail
 go_region_held3 (fun w'=>w'.cell? ⟨w.heap.size,2,none⟩=some (.int .i64 at_)/\w'.cell? ⟨w.heap.size,3,none⟩=some (.int .i64 n)/\w'.cell? ⟨w.heap.size,5,none⟩=some (.int .i64 (s:Int))/\w'.cell? ⟨w.heap.size,8,none⟩=some (.slice A l.length cap)/\w'.cell? ⟨w1.heap.size,3,none⟩=some (.slice (some ⟨bb,x,none⟩) t0.kids.length c)) (go_keep) (first
  |(go_at_call 174;refine(CC.out _ (XF bM.out)).mono ?_;rintro e w5 ⟨v5,rfl,aL,bG⟩;obtain⟨A5,c5,rfl⟩:=aL.form;have dw:=hid aL;have aI:=hid (Xt bG);clear aL bG;obtain⟨⟨⟨m0,m1,m2,m3,m4,m5,m6,m7⟩,m8⟩,cZ⟩:=aU.out _ (KD.out w5 aI.out);obtain⟨_,_,_,aT,⟨u5,k5⟩,f5⟩:=KC.out w5 aI.out;clear cZ))
 obtain⟨bz,aR,bJ,ai,_,_⟩:=KC.out w5 aI.out;have hs1:w1.heap.size<W1.drew.heap.size:=ah;have bW:=zIq (T':=fun q=>S q\/w.heap.size<=q/\q<w5.heap.size) (W':=w5.setCell ⟨bb,x+s*4+3,none⟩ (.slice A5 L.length c5)) bz aR dz.out bJ bL.out ai aV.out dx.out dw.out (fun q hq=>by
  have h1:=ak.out;have h2:w.heap.size<=w5.heap.size:=QP bM.out.size aI.out.size;rcases hq with hq|hq
  ·have hq:=dm.out q hq;exact⟨by omega,by omega⟩
  ·exact⟨by omega,hq.2⟩) (fun k hk=>.inr ⟨QP bN.out.size (dh.out k hk),aR k hk⟩) (fun k hk=>by
  rcases hk with hk|hk
  ·exact .inl hk
  exact .inr ⟨by have h1:=ak.out;have h2:=bN.out.size;omega,hk.2⟩) rfl
 have bD:=(KD.out w5 aI.out).setCell (p:=⟨bb,x+s*4+3,none⟩) ak.out.1 (.slice A5 L.length c5);have df:Hid ((w5.setCell ⟨bb,x+s*4+3,none⟩ (.slice A5 L.length c5)).heap.size=w5.heap.size):=by show _=_;simp[World.setCell]
 have e9:(w5.setCell ⟨bb,x+s*4+3,none⟩ (.slice A5 L.length c5)).cell? ⟨w1.heap.size,3,none⟩=some (.slice (some ⟨bb,x,none⟩) t0.kids.length c):=(World.cell?_setCell_other _ _ _ _ (by intro e;injection e with e;omega)).trans ai;generalize (w5.setCell ⟨bb,x+s*4+3,none⟩ (.slice A5 L.length c5))=W6 at *;obtain⟨v6,⟨e0,e1,e2,e3⟩,az,bn⟩:=bW;obtain rfl:v6=_:=Option.some.inj (e3.symm.trans e9);obtain⟨⟨⟨m0,m1,m2,m3,m4,m5,m6,m7⟩,m8⟩,aG⟩:=aU.out W6 bD;generalize Zp t0 s L=R at *;have HH:=hid (HJ.out W6 _ _ R az aG rfl (by rw[df.out];exact bn));clear bD aG az bn bz aR bJ ai;simp only[Nat.zero_add] at e0 e1 e2 e3
 go_wp2_with fail
 refine HH.out.mono ?_;rintro e w7 ⟨v7,rfl,bi,bC⟩;have dn:=hid bi;have dA:=hid bC;clear bi bC
 go_wp2_with fail
 refine bodyPost_ret (v:=.tuple #[v7,.int .i64 0]) (by simp[results,Tryz.results164,go_sem]) rfl ?_;exact⟨v7,rfl,dn.out,dA.out⟩
def TI (l:List Z9) (a s:Nat) (n:Int) (it nd:Z9):List Z9×Int :=
 if it.kids.length<=s then ([],7) else if (((it.kids.getD s ZJ).kids.length:Int) != n)=true then ([],7) else if YB it (Zp nd s (it.kids.getD s ZJ).kids)=true then (Zk l a (a+1) (it.kids.getD s ZJ).kids,0) else ([],7)
theorem zM5 (op:ZB) (l:List Z9) (a lr s:Nat) (it nd:Z9) (Ar An A:Option Addr) (cr cn cap:Nat) (w:World) (S:Nat->Prop) (hS:∀q,S q->q<w.heap.size) (hl:Z8 Z7 w S l (.slice A l.length cap)) (hn:Z8 Z7 w S op.nodes (.slice An op.nodes.length cn))
  (dX:op.nodes=[nd]) (hs:op.slot=s) (dV:s<nd.kids.length) (dh:nd.kids[s]=Z6 []) (ha:op.at_=a) (bK:a<l.length) (dn:l[a]=it) (dw:(it.kind==1)=false) (dA:ZW it<=400000) (cK:∀h:s<it.kids.length,it.kids[s]=Z6 it.kids[s].kids) (dY:l.length<=50000) :
  Calls Tryz.prog 165 #[.agg (YE op (.slice Ar lr cr) (.slice An op.nodes.length cn) (.slice A l.length cap))] w (XB S w (TI l a s op.n it nd)):=by
 obtain⟨W0,hW0,hz,KB⟩:=RY op (.slice Ar lr cr) (.slice An op.nodes.length cn) (.slice A l.length cap) w;have aM:=hid KB;obtain⟨⟨⟨m0,m1,m2,m3,m4,m5,m6,m7⟩,m8⟩,aG⟩:=KB W0 (QQ _ _);have dN:=hid aG;have hJ:∀W (R:List Z9) A5 c5,Below w.heap.size w W->R.length<=400000->Z8 Z7 W (fun q=>S q\/w.heap.size<=q/\q<W.heap.size) R (.slice A5 R.length c5)->Calls Tryz.prog 171 #[.agg (YE op (.slice Ar lr cr) (.slice An op.nodes.length cn) (.slice A l.length cap)),.int .i64 1,.slice A5 R.length c5] W (XN S w (Zk l a (a+1) R)):=fun W R A5 c5 hW hR hr =>
  (Rk op l R 1 a (a+1) lr Ar A A5 (.slice An op.nodes.length cn) cr cap c5 _ (fun q=>S q\/w.heap.size<=q/\q<W.heap.size) (fun q hq=>by
   rcases hq with hq|hq
   ·exact QV (hS q hq) hW.size
   exact hq.2) ((YH hl hS hW).keep (fun _ _=>rfl) (fun _ h=>.inl h)) hr ha (by omega) (by omega) bK (by omega)).mono fun e w' h=>h.wide (fun q hq=>hq) hW
 have HJ:=hid hJ;obtain⟨kind,row,at_,n,nodes,slot,old,text⟩:=op;simp only[YE] at *;subst dX hs ha;obtain⟨_,_,rs0,hq,_,_,aP,aT⟩:=hn;cases hq;obtain⟨g0,o0,A0,c0,dQ,rfl,ek,bZ,bY,bW,bU,b1,b2,b3,b4,b5,aO,aS⟩:=Y5 aP aT (k:=0) (by simp);simp only[Nat.zero_mul,Nat.add_zero,List.getElem_cons_zero,List.length_cons,List.length_nil,Nat.zero_add] at *;have aQ:Z8 Z7 w S nd.kids (.slice A0 nd.kids.length c0):=⟨_,_,dQ,rfl,b4,b5,aO,aS⟩;have av:g0<w.heap.size:=hS g0 ek;have KN:Hid (∀W,Below w.heap.size w W->W.cell? ⟨g0,o0,none⟩=some (.int .i64 nd.kind)/\W.cell? ⟨g0,o0+1,none⟩=some (.string nd.text)/\W.cell? ⟨g0,o0+2,none⟩=some (.int .i64 nd.cols)/\W.cell? ⟨g0,o0+3,none⟩=some (.slice A0 nd.kids.length c0)):=fun W hW =>
  ⟨(hW.cell (p:=⟨g0,_,none⟩) av).trans bZ,(hW.cell (p:=⟨g0,_,none⟩) av).trans bY,(hW.cell (p:=⟨g0,_,none⟩) av).trans bW,(hW.cell (p:=⟨g0,_,none⟩) av).trans bU⟩
 have eG:=hid aQ;have dZ:=hl;obtain⟨_,_,rs2,hq,_,_,aN,aR⟩:=dZ;cases hq;obtain⟨gi,oi,Ai,ci,dP,rfl,ed,bC,bB,bA,bz,d1,d2,d3,d4,d5,aA,aC⟩:=Y5 aN aR bK;simp only[dn] at bC bB bA bz d1 d2 d3 d4 d5 aA aC;have aB:Zt it:=⟨d1,d2,d3⟩;have dm:Z8 Z7 w S it.kids (.slice Ai it.kids.length ci):=⟨_,_,dP,rfl,d4,d5,aA,aC⟩;have au:gi<w.heap.size:=hS gi ed;have q0:=(aG.cell (p:=⟨gi,_,none⟩) au).trans bC;have q1:=(aG.cell (p:=⟨gi,_,none⟩) au).trans bB;have q2:=(aG.cell (p:=⟨gi,_,none⟩) au).trans bA;have q3:=(aG.cell (p:=⟨gi,_,none⟩) au).trans bz;have CD:=hid (zDt it Ai ci W0 (UM dm hS aG) aB (by omega));have CS:Hid (∀A' c' W,Calls Tryz.prog 128 #[.agg #[.int .i64 it.kind,.string it.text,.int .i64 it.cols,.slice A' it.kids.length c']] W fun e w'=>e=.returned (.int .i64 it.kids.length)/\Below W.heap.size W w'):=fun A' c' W=>by
  have h:=zK0 it A' c' W;have e:VK it=it.kids.length:=by unfold VK;exact if_neg (by simpa using dw)
  rw[e] at h;exact h
 have df:=Yz it;have i0:(0:Int)<=(a:Int):=by omega
 have i1:(a:Int)<(l.length:Int):=by omega
 have i2:(0:Int)<=(s:Int):=by omega
 have eH:=hid dh;have bM:=hid aB;have eD:=hid dV;have HKL:=hid (QP df dA);have bL:=hid cK;have bP:Hid (∀h:s<it.kids.length,it.kids[s].kids.length<=400000):=fun h=>by
  have h1:=Tz h;have h2:=Yz it.kids[s];omega
 have eB:=hid hS;clear hl hS KB aG hJ aP aT aO aS bZ bY bW bU b1 b2 b3 b4 b5 aQ bK dY dA dh aN aR aA aC bC bB bA bz d1 d2 d3 d4 d5 dm aB df dw cK dn;have aU:it.kids.length<=s\/s<it.kids.length:=by omega
 rcases aU with aj|aj
 ·have HU:Hid (TI l a s n it nd=([],7)):=by show _=_;unfold TI;exact if_pos aj
  rw[HU.out];have i3:decide ((it.kids.length:Int)<=(s:Int))=true:=by simpa using aj
  clear HU HJ bL bP;go_enter Tryz.func165,Tryz.ntmps165
  go_wp2_with fail
  refine CD.out.mono ?_;rintro e w1 ⟨v,T,rfl,aD,hT,aK,ak,ae,_⟩;obtain⟨A4,c4,rfl⟩:=aK.form;obtain⟨W1,af⟩:∃W1,w1.alloc (Obj.cells #[.int .i64 it.kind,.string it.text,.int .i64 it.cols,.slice A4 it.kids.length c4] 24)=W1:=⟨_,rfl⟩;have ay:Below w1.heap.size w1 W1:=by rw[<-af];exact ZX _ _
  have az:Below W0.heap.size W0 W1:=aD.trans (ay.mono aD.size);obtain⟨⟨⟨m0,m1,m2,m3,m4,m5,m6,m7⟩,m8⟩,ah⟩:=aM.out W1 az;have eQ:=hid ah;have bQ:=hid az;have p0:W1.cell? ⟨w1.heap.size,0,none⟩=some (.int .i64 it.kind):=by rw[<-af];exact ZU _ _ _ _ _ rfl
  have p1:W1.cell? ⟨w1.heap.size,1,none⟩=some (.string it.text):=by rw[<-af];exact ZU _ _ _ _ _ rfl
  have p2:W1.cell? ⟨w1.heap.size,2,none⟩=some (.int .i64 it.cols):=by rw[<-af];exact ZU _ _ _ _ _ rfl
  have p3:W1.cell? ⟨w1.heap.size,3,none⟩=some (.slice A4 it.kids.length c4):=by rw[<-af];exact ZU _ _ _ _ _ rfl
  clear aK ak ae aD ay az hT ah
  go_upto_region 2 with fail
  try rw[af]
  clear af;have KP:Hid (∀W,Below W1.heap.size W1 W->W.cell? ⟨w1.heap.size,0,none⟩=some (.int .i64 it.kind)/\W.cell? ⟨w1.heap.size,1,none⟩=some (.string it.text)/\W.cell? ⟨w1.heap.size,2,none⟩=some (.int .i64 it.cols)/\W.cell? ⟨w1.heap.size,3,none⟩=some (.slice A4 it.kids.length c4)):=fun W hW =>
   ⟨(hW.cell (p:=⟨w1.heap.size,0,none⟩) (Y2 p0)).trans p0,(hW.cell (p:=⟨w1.heap.size,1,none⟩) (Y2 p1)).trans p1,(hW.cell (p:=⟨w1.heap.size,2,none⟩) (Y2 p2)).trans p2,(hW.cell (p:=⟨w1.heap.size,3,none⟩) (Y2 p3)).trans p3⟩
  go_wp2_with fail
  go_region_held3 (fun w'=>w'.cell? ⟨w.heap.size,5,none⟩=some (.int .i64 (s:Int))/\w'.cell? ⟨w1.heap.size,0,none⟩=some (.int .i64 it.kind)/\w'.cell? ⟨w1.heap.size,1,none⟩=some (.string it.text)/\w'.cell? ⟨w1.heap.size,2,none⟩=some (.int .i64 it.cols)/\w'.cell? ⟨w1.heap.size,3,none⟩=some (.slice A4 it.kids.length c4)) (go_keep) (first
   |(go_at_call 128;refine(CS.out _ _ _).mono ?_;rintro e w5 ⟨rfl,aV⟩;have aJ:=hid (Xt aV);clear aV;obtain⟨p0,p1,p2,p3⟩:=KP.out w5 aJ.out;obtain⟨⟨⟨m0,m1,m2,m3,m4,m5,m6,m7⟩,m8⟩,ax⟩:=aM.out _ (Zx bQ.out aJ.out);have dM:=hid ax;clear ax))
  go_wp2_with fail
  refine bodyPost_ret (v:=.tuple #[.slice none 0 0,.int .i64 7]) (by simp[results,Tryz.results165,go_sem]) rfl ?_;exact⟨_,rfl,Z8.nil_ 0 (QU _) none,dM.out⟩
 have i3:decide ((it.kids.length:Int)<=(s:Int))=false:=by simpa using aj
 have i3':¬it.kids.length<=s:=by omega
 have i4:(s:Int)<(it.kids.length:Int):=by omega
 obtain⟨aa,bI⟩:∃aa,aa=it.kids[s].kids:=⟨_,rfl⟩;have ag:=bL.out aj;rw[<-bI] at ag;have dz:it.kids.getD s ZJ=Z6 aa:=by rw[List.getD_eq_getElem?_getD,List.getElem?_eq_getElem aj,Option.getD_some,ag]
 have HU:Hid (TI l a s n it nd=if ((aa.length:Int) != n)=true then ([],7) else if YB it (Zp nd s aa)=true then (Zk l a (a+1) aa,0) else ([],7)):=by
  show _=_;unfold TI;rw[if_neg (by omega),dz];rfl
 generalize TI l a s n it nd=RES at *;have bJ:=bP.out aj;rw[<-bI] at bJ;have bN:=hid (zOf aj ag eD.out eH.out);have bg:=hid ag;have dK:=hid aj;have eO:=hid bJ;clear bL bP ag bI dz bJ;go_enter Tryz.func165,Tryz.ntmps165
 go_wp2_with fail
 refine CD.out.mono ?_;rintro e w1 ⟨v,T,rfl,aD,hT,aK,ak,ae,_⟩;obtain⟨bb,x,c,rfl,aL⟩:=zGo aK (by omega);obtain⟨W1,af⟩:∃W1,w1.alloc (Obj.cells #[.int .i64 it.kind,.string it.text,.int .i64 it.cols,.slice (some ⟨bb,x,none⟩) it.kids.length c] 24)=W1:=⟨_,rfl⟩;obtain⟨B,hB⟩:∃B,B=w1.heap.size:=⟨_,rfl⟩;have ay:Below w1.heap.size w1 W1:=by rw[<-af];exact ZX _ _
 have az:Below W0.heap.size W0 W1:=aD.trans (ay.mono aD.size);have dG:¬T B:=fun h=>by have:=(hT B h).2;omega
 have dF:YA W1 T B 0 it:=⟨_,by refine⟨?_,?_,?_,?_⟩<;>(rw[hB,<-af,World.cell?_alloc_new];rfl),bM.out,aK.keep (fun q hq=>ay.cell (hT _ hq).2) (fun _ h=>h)⟩;have aX:W1.cell? ⟨B,3,none⟩=some (.slice (some ⟨bb,x,none⟩) it.kids.length c):=by rw[hB,<-af,World.cell?_alloc_new];rfl
 have aW:B<W1.heap.size:=Y2 aX;have KC:Hid (∀W,Below W1.heap.size W1 W->Xh W T/\(∀k,T k->k<W.heap.size)/\YA W T B 0 it/\W.cell? ⟨B,3,none⟩=some (.slice (some ⟨bb,x,none⟩) it.kids.length c)/\YA W T bb (x+s*4) (Z6 aa)/\W.frozen? ⟨bb,x+s*4+3,none⟩=false):=fun W hW=>by
  have bi:∀k,T k->k<W1.heap.size:=fun k hk=>QV (hT k hk).2 ay.size
  have h1:=(ak.keep (fun q hq=>ay.cell (hT _ hq).2)).keep (W':=W) (fun q hq=>hW.cell (bi _ hq));obtain⟨u,dU,dS,dR⟩:=dF;have h3:YA W T B 0 it:=⟨u,dU.keep (fun j _=>hW.cell (p:=⟨B,_,none⟩) aW),dS,dR.keep (fun q hq=>hW.cell (bi _ hq)) (fun _ h=>h)⟩;have h4:=(hW.cell (p:=⟨B,3,none⟩) aW).trans aX;have h5:=Sa h3 (by simpa using h4) dK.out;rw[bg.out] at h5;exact⟨h1,fun k hk=>QV (bi k hk) hW.size,h3,h4,h5,(hW.frozen (p:=⟨bb,_,none⟩) (bi _ aL)).trans ((ay.frozen (p:=⟨bb,_,none⟩) (hT _ aL).2).trans (ae bb aL _))⟩
 have KD:Hid (∀W,Below W1.heap.size W1 W->Below W0.heap.size W0 W):=fun W hW=>az.trans (hW.mono az.size)
 have dI:Hid (∀k,T k->W0.heap.size<=k):=fun k hk=>(hT k hk).1
 have aZ:Hid (W0.heap.size<=bb/\bb<w1.heap.size):=hT bb aL;obtain⟨⟨⟨m0,m1,m2,m3,m4,m5,m6,m7⟩,m8⟩,ah⟩:=aM.out W1 az;have eQ:=hid ah;have aY:=hid aL;have eT:=hid dG;have n1:¬w.heap.size=bb:=by have:=aZ.out.1;omega
 have n2':¬bb=w.heap.size:=by have:=aZ.out.1;omega
 have n3:¬w1.heap.size=bb:=by have:=aZ.out.2;omega
 have n4:¬bb=w1.heap.size:=by have:=aZ.out.2;omega
 obtain⟨_,_,⟨u0,⟨p0,p1,p2,_⟩,_⟩,_⟩:=KC.out W1 (QQ _ _);clear aK ak ae dF aD ay az hT aL dG ah;subst hB;simp only[Nat.zero_add] at p1 p2;have KP:Hid (∀W,Below W1.heap.size W1 W->W.cell? ⟨w1.heap.size,0,none⟩=some (.int .i64 it.kind)/\W.cell? ⟨w1.heap.size,1,none⟩=some (.string it.text)/\W.cell? ⟨w1.heap.size,2,none⟩=some (.int .i64 it.cols)/\W.cell? ⟨w1.heap.size,3,none⟩=some (.slice (some ⟨bb,x,none⟩) it.kids.length c)):=fun W hW =>
  ⟨(hW.cell (p:=⟨w1.heap.size,0,none⟩) (Y2 p0)).trans p0,(hW.cell (p:=⟨w1.heap.size,1,none⟩) (Y2 p1)).trans p1,(hW.cell (p:=⟨w1.heap.size,2,none⟩) (Y2 p2)).trans p2,(hW.cell (p:=⟨w1.heap.size,3,none⟩) (Y2 aX)).trans aX⟩
 go_upto_region 2 with fail
 try rw[af]
 clear af
 go_wp2_with fail
 go_region_held3 (fun w'=>w'.cell? ⟨w.heap.size,5,none⟩=some (.int .i64 (s:Int))/\w'.cell? ⟨w1.heap.size,0,none⟩=some (.int .i64 it.kind)/\w'.cell? ⟨w1.heap.size,1,none⟩=some (.string it.text)/\w'.cell? ⟨w1.heap.size,2,none⟩=some (.int .i64 it.cols)/\w'.cell? ⟨w1.heap.size,3,none⟩=some (.slice (some ⟨bb,x,none⟩) it.kids.length c)) (go_keep) (first
  |(go_at_call 128;refine(CS.out _ _ _).mono ?_;rintro e w5 ⟨rfl,aV⟩;have aJ:=hid (Xt aV);clear aV;obtain⟨p0,p1,p2,aX⟩:=KP.out w5 aJ.out;obtain⟨⟨⟨m0,m1,m2,m3,m4,m5,m6,m7⟩,m8⟩,ax⟩:=aM.out _ (KD.out w5 aJ.out);have dM:=hid ax;clear ax))
 obtain⟨bH,bn,dE,aF,⟨vi,⟨_,_,_,k5⟩,_,bD⟩,f5⟩:=KC.out w5 aJ.out;obtain⟨dO,dH,rfl⟩:∃A c,vi=.slice A aa.length c:=bD.form;have cu:=zFq bD k5;have cB:=zIq (W':=w5.setCell ⟨bb,x+s*4+3,none⟩ (.slice none 0 0)) (T':=fun q=>w.heap.size<=q/\q<w5.heap.size) (L:=[]) (S2:=fun _=>False) bH bn eT.out dE dK.out aF aY.out bg.out (Z8.nil_ 0 (QU _) none) (fun q hq=>hq.elim) (fun k hk=>⟨QP dN.out.size (dI.out k hk),bn k hk⟩) (fun k hk=>hk.elim) rfl;have dD:=(KD.out w5 aJ.out).setCell (p:=⟨bb,x+s*4+3,none⟩) aZ.out.1 (.slice none 0 0);have e9:(w5.setCell ⟨bb,x+s*4+3,none⟩ (.slice none 0 0)).cell? ⟨w1.heap.size,3,none⟩=some (.slice (some ⟨bb,x,none⟩) it.kids.length c):=(World.cell?_setCell_other _ _ _ _ (by intro e;injection e with e;omega)).trans aF;have dx:Z8 Z7 (w5.setCell ⟨bb,x+s*4+3,none⟩ (.slice none 0 0)) (fun q=>w.heap.size<=q/\q<w5.heap.size) aa (.slice dO aa.length dH):=cu.keep (fun q hq=>World.cell?_setCell_other _ _ _ _ (by intro e;have h1:=hq.gt bH aY.out;rw[<-e] at h1;exact Nat.lt_irrefl _ h1)) (fun q hq=>⟨QP dN.out.size (dI.out q hq.mem),bn q hq.mem⟩);have bu:Hid ((w5.setCell ⟨bb,x+s*4+3,none⟩ (.slice none 0 0)).heap.size=w5.heap.size):=by show _=_;simp[World.setCell]
 have dJ:=hid cB;have aI:=hid dD;have eP:=hid dx;clear bH bn dE aF bD cu cB dD dx
 go_upto_region 6 with fail
 generalize w5.setCell ⟨bb,x+s*4+3,none⟩ (.slice none 0 0)=W6 at *;obtain⟨v6,⟨e0,e1,e2,e3⟩,bG,cZ⟩:=dJ.out;obtain rfl:v6=_:=Option.some.inj (e3.symm.trans e9);obtain⟨⟨⟨m0,m1,m2,m3,m4,m5,m6,m7⟩,m8⟩,ai⟩:=aM.out W6 aI.out;obtain⟨k0,k1,k2,k3⟩:=KN.out W6 ai;have CE:Hid (∀W,Below W6.heap.size W6 W->Calls Tryz.prog 173 #[.agg #[.int .i64 it.kind,.string it.text,.int .i64 it.cols,.slice (some ⟨bb,x,none⟩) it.kids.length c],.agg #[.int .i64 nd.kind,.string nd.text,.int .i64 nd.cols,.slice A0 nd.kids.length c0]] W (Xg W (YB it (Zp nd s aa)))):=fun W hW=>by
  rw[<-bN.out];have h9:=ai.trans (hW.mono ai.size);exact zJh (Zp it s []) nd W _ _ (cZ.keep (fun q hq=>hW.cell (by rw[bu.out];exact hq.2)) (fun q hq=>by have:=hW.size;rw[bu.out] at this;exact QV hq.2 this)) (UM eG.out eB.out h9)
 have eU:=hid ai;simp only[Nat.zero_add] at e1 e2
 change W6.cell? ⟨w1.heap.size,0,none⟩=some (.int .i64 it.kind) at e0
 change W6.cell? ⟨w1.heap.size,1,none⟩=some (.string it.text) at e1
 change W6.cell? ⟨w1.heap.size,2,none⟩=some (.int .i64 it.cols) at e2
 clear e3 cZ bG ai dJ;cases hbn:((aa.length:Int) != n)
 ·have hR:=HU.out;rw[hbn,if_neg (by decide)] at hR;generalize eu:YB it (Zp nd s aa)=bE at *;have HR:=hid hR;clear hR eu HU bN;have KF:Hid (∀W,Below W6.heap.size W6 W->Below W0.heap.size W0 W):=fun W hW=>aI.out.trans (hW.mono aI.out.size)
  cases bE
  all_goals
   have hR:=HR.out;simp only[if_true,if_false,Bool.false_eq_true] at hR;subst hR
   go_wp2_with fail
   go_region_held3 (fun w'=>w'.cell? ⟨w.heap.size,3,none⟩=some (.int .i64 n)/\w'.cell? ⟨w.heap.size,4,none⟩=some (.slice (some ⟨g0,o0,none⟩) 1 cn)/\w'.cell? ⟨w1.heap.size,0,none⟩=some (.int .i64 it.kind)/\w'.cell? ⟨w1.heap.size,1,none⟩=some (.string it.text)/\w'.cell? ⟨w1.heap.size,2,none⟩=some (.int .i64 it.cols)/\w'.cell? ⟨w1.heap.size,3,none⟩=some (.slice (some ⟨bb,x,none⟩) it.kids.length c)/\w'.cell? ⟨g0,o0,none⟩=some (.int .i64 nd.kind)/\w'.cell? ⟨g0,o0+1,none⟩=some (.string nd.text)/\w'.cell? ⟨g0,o0+2,none⟩=some (.int .i64 nd.cols)/\w'.cell? ⟨g0,o0+3,none⟩=some (.slice A0 nd.kids.length c0)) (go_keep) (first
    |(go_at_call 173;refine(CE.out _ (XF (QQ _ W6))).mono ?_;rintro e w7 ⟨rfl,dC⟩;have aH:=hid (Xt dC);clear dC;obtain⟨⟨⟨m0,m1,m2,m3,m4,m5,m6,m7⟩,m8⟩,ax⟩:=aM.out _ (KF.out w7 aH.out);obtain⟨k0,k1,k2,k3⟩:=KN.out _ ax;have dL:=hid ax;clear ax;have e0:=(aH.out.cell (p:=⟨w1.heap.size,0,none⟩) (Y2 e0)).trans e0;have e1:=(aH.out.cell (p:=⟨w1.heap.size,1,none⟩) (Y2 e1)).trans e1;have e2:=(aH.out.cell (p:=⟨w1.heap.size,2,none⟩) (Y2 e2)).trans e2;have e9:=(aH.out.cell (p:=⟨w1.heap.size,3,none⟩) (Y2 e9)).trans e9))
   go_wp2_with fail
  ·refine bodyPost_ret (v:=.tuple #[.slice none 0 0,.int .i64 7]) (by simp[results,Tryz.results165,go_sem]) rfl ?_;exact⟨_,rfl,Z8.nil_ 0 (QU _) none,dL.out⟩
  refine(HJ.out w7 aa dO dH dL.out eO.out (eP.out.keep (fun q hq=>aH.out.cell (by show _<W6.heap.size;rw[bu.out];exact hq.2)) (fun q hq=>.inr ⟨hq.1,by have h9:W6.heap.size<=w7.heap.size:=aH.out.size;rw[bu.out] at h9;exact QV hq.2 h9⟩))).mono ?_;rintro e w8 ⟨v8,rfl,cO,dB⟩;have eF:=hid cO;have bR:=hid dB;clear cO dB
  go_wp2_with fail
  refine bodyPost_ret (v:=.tuple #[v8,.int .i64 0]) (by simp[results,Tryz.results165,go_sem]) rfl ?_;exact⟨v8,rfl,eF.out,bR.out⟩
 have hR:=HU.out;rw[hbn,if_pos rfl] at hR;subst hR;clear HU bN CE
 go_wp2_with fail
 go_quiet (fail)
 go_wp2_with fail
 refine bodyPost_ret (v:=.tuple #[.slice none 0 0,.int .i64 7]) (by simp[results,Tryz.results165,go_sem]) rfl ?_;exact⟨_,rfl,Z8.nil_ 0 (QU _) none,TM eU.out⟩
