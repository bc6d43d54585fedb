/- T -/
import Derived.Test.YthpngeboknmllaaGreatQ85fd
import Derived.Test.YthpngeboknmllaaGreatQde4e
set_option linter.unusedVariables false
set_option linter.unusedSimpArgs false
set_option maxHeartbeats 4000000
set_option maxRecDepth 100000
namespace Go.Proofs.YthpngeboknmllaaGreat
open Go.RowKit
theorem zQl (op:ZL) (l:List Z9) (a b lr s:Nat) (t0:Z9) (L0:List Z9) (Ar An A:Option Addr) (cr cn cap:Nat) (w:World) (S:Nat->Prop) (hS:∀q,S q->q<w.heap.size) (hl:Z8 Z6 w S l (.slice A l.length cap)) (hn:Z8 Z6 w S op.nodes (.slice An op.nodes.length cn))
  (cB:op.nodes=[t0]) (hs:op.slot=s) (bZ:s<t0.kids.length) (bB:t0.kids[s]=Z7 L0) (bC:ZR t0<=1000000) (ha:op.at_=a) (hb:op.at_+op.n=b) (bI:a<=b) (aP:b<=l.length) (cK:l.length<=400000) :
  Calls Tryz.prog 164 #[.agg (Yt op (.slice Ar lr cr) (.slice An op.nodes.length cn) (.slice A l.length cap))] w (Xz S w (Zn l a b [Zj t0 s ((l.take b).drop a)],0)):=by
 obtain⟨W0,hW0,hz,KB⟩:=Qp op (.slice Ar lr cr) (.slice An op.nodes.length cn) (.slice A l.length cap) w;have aV:=hid KB;obtain⟨⟨⟨m0,m1,m2,m3,m4,m5,m6,m7⟩,m8⟩,ak⟩:=KB W0 (Qg _ _);have bP:=hid ak;have bz:=slLe hl;obtain⟨A1,hsl,hcut⟩:=Qt Z6 Tryz.underlying22 Vw A l.length cap op.at_ (op.at_+op.n) a b ha hb bI aP bz;have aF:((l.take b).drop a).length=b-a:=by simp;omega
 have v1:IntKind.i64.wrap (op.at_+op.n)=op.at_+op.n:=IntWalk.i64_in _ (by omega);have aO:∀W,Below w.heap.size w W->Z8 Z6 W S l (.slice A l.length cap):=fun W hW=>Yx hl hS hW
 have HLW:=hid aO;have CC:Hid (∀W,Below w.heap.size w W->Calls Tryz.prog 174 #[.slice A1 (b-a) (cap-a)] W (XL S W ((l.take b).drop a))):=fun W hW=>by
  have h:=zO4 ((l.take b).drop a) W (.slice A1 (b-a) (cap-a)) S (fun q hq=>Qk (hS q hq) hW.size) (hcut _ _ _ (aO W hW)) (by rw[aF];omega);exact h
 have hJ:∀W gg v5 (R:Z9),Zk R->Below w.heap.size w W->gg=W.heap.size->Z8 Z6 W (fun q=>S q\/w.heap.size<=q/\q<W.heap.size) R.kids v5->Calls Tryz.prog 171 #[.agg (Yt op (.slice Ar lr cr) (.slice An op.nodes.length cn) (.slice A l.length cap)),.int .i64 op.n,.slice (some ⟨gg,0,none⟩) 1 1] (W.alloc (Obj.cells #[.int .i64 R.kind,.string R.text,.int .i64 R.cols,v5] 24)) (XL S w (Zn l a b [R])):=fun W gg v5 R cu hW cO hr=>by
  subst cO;have aR:a<=l.length:=by omega
  obtain⟨k,x,c,ts⟩:=R;have h9:=hW.trans ((ZW W (Obj.cells #[.int .i64 k,.string x,.int .i64 c,v5] 24)).mono hW.size);have bJ:∀q,(S q\/w.heap.size<=q/\q<W.heap.size)->q<W.heap.size:=fun q hq=>by
   rcases hq with hq|hq
   ·exact Qk (hS q hq) hW.size
   exact hq.2
  exact(zGa op l [.mk k x c ts] op.n a b lr Ar A _ (.slice An op.nodes.length cn) cr cap 1 _ (fun q=>(S q\/w.heap.size<=q/\q<W.heap.size)\/q=W.heap.size) (fun q hq=>by
   rcases hq with hq|rfl
   ·exact Qk (bJ q hq) (by simp)
   simp) ((Yx hl hS h9).keep (fun _ _=>rfl) (fun _ h=>.inl (.inl h))) (Rh bJ cu hr) ha (by omega) aR aP (by simp;omega)).mono fun e w' h=>h.wide (fun q hq=>by
   rcases hq with (hq|hq)|rfl
   ·exact .inl hq
   ·exact .inr ⟨hq.1,by simp;omega⟩
   exact .inr ⟨hW.size,by simp⟩) h9
 have HJ:=hid hJ;obtain⟨kind,row,at_,n,nodes,slot,old,text⟩:=op;simp only[Yt] at *;subst cB hs;obtain⟨_,_,rs0,hq,_,_,az,aC⟩:=hn;cases hq;obtain⟨g0,o0,A0,c0,bQ,rfl,cZ,bn,bg,aZ,aY,b1,b2,b3,b4,b5,ay,aB⟩:=YW az aC (k:=0) (by simp);simp only[Nat.zero_mul,Nat.add_zero,List.getElem_cons_zero,List.length_cons,List.length_nil,Nat.zero_add] at *;have af:Zk t0:=⟨b1,b2,b3⟩;have ax:Z8 Z6 w S t0.kids (.slice A0 t0.kids.length c0):=⟨_,_,bQ,rfl,b4,b5,ay,aB⟩;have aa:g0<w.heap.size:=hS g0 cZ;have q0:=(ak.cell (p:=⟨g0,_,none⟩) aa).trans bn;have q1:=(ak.cell (p:=⟨g0,_,none⟩) aa).trans bg;have q2:=(ak.cell (p:=⟨g0,_,none⟩) aa).trans aZ;have q3:=(ak.cell (p:=⟨g0,_,none⟩) aa).trans aY;have CD:=hid (zDt t0 A0 c0 W0 (TR ax hS ak) af bC);have i0:(0:Int)<=(s:Int):=by omega
 have i1:(s:Int)<(t0.kids.length:Int):=by omega
 obtain⟨L,hL⟩:∃L,L=(l.take b).drop a:=⟨_,rfl⟩;rw[<-hL] at CC ⊢;generalize b-a=n2 at *;have dx:=hid bB;have aX:=hid af;have bM:=hid bZ;have dm:=hid hS;clear hl hS KB ak hcut aF bz aO hJ az aC ay aB bn bg aZ aY b1 b2 b3 b4 b5 ax ha hb bI aP cK bC hL bB af;go_enter Tryz.func164,Tryz.ntmps164
 go_wp2_with fail
 refine CD.out.mono ?_;rintro e w1 ⟨v,T,rfl,aQ,hT,aN,aD,ae,_⟩;obtain⟨bb,x,c,rfl,ag⟩:=zGo aN (by omega);obtain⟨W1,aI⟩:∃W1,w1.alloc (Obj.cells #[.int .i64 t0.kind,.string t0.text,.int .i64 t0.cols,.slice (some ⟨bb,x,none⟩) t0.kids.length c] 24)=W1:=⟨_,rfl⟩;obtain⟨B,hB⟩:∃B,B=w1.heap.size:=⟨_,rfl⟩;have av:Below w1.heap.size w1 W1:=by rw[<-aI];exact ZW _ _
 have aK:Below W0.heap.size W0 W1:=aQ.trans (av.mono aQ.size);have aT:¬T B:=fun h=>by have:=(hT B h).2;omega
 have hne:bb≠B:=fun e=>aT (e ▸ ag)
 have bL:Yo W1 T B 0 t0:=⟨_,by refine⟨?_,?_,?_,?_⟩<;>(rw[hB,<-aI,World.cell?_alloc_new];rfl),aX.out,aN.keep (fun q hq=>av.cell (hT _ hq).2) (fun _ h=>h)⟩;have aU:W1.cell? ⟨B,3,none⟩=some (.slice (some ⟨bb,x,none⟩) t0.kids.length c):=by rw[hB,<-aI,World.cell?_alloc_new];rfl
 have ah:B<W1.heap.size:=Y0 aU
 -- all that later worlds keep
 have KC:Hid (∀W,Below W1.heap.size W1 W->Xb W T/\(∀k,T k->k<W.heap.size)/\Yo W T B 0 t0/\W.cell? ⟨B,3,none⟩=some (.slice (some ⟨bb,x,none⟩) t0.kids.length c)/\(∃u,W.cell? ⟨bb,x+s*4+3,none⟩=some u)/\W.frozen? ⟨bb,x+s*4+3,none⟩=false):=fun W hW=>by
  have aL:∀k,T k->k<W1.heap.size:=fun k hk=>Qk (hT k hk).2 av.size
  have h1:=(aD.keep (fun q hq=>av.cell (hT _ hq).2)).keep (W':=W) (fun q hq=>hW.cell (aL _ hq));obtain⟨u,bW,bU,bR⟩:=bL;have h3:Yo W T B 0 t0:=⟨u,bW.keep (fun j _=>hW.cell (p:=⟨B,_,none⟩) ah),bU,bR.keep (fun q hq=>hW.cell (aL _ hq)) (fun _ h=>h)⟩;have h4:=(hW.cell (p:=⟨B,3,none⟩) ah).trans aU;obtain⟨u2,⟨_,_,_,k3⟩,_⟩:=Qw h3 (by simpa using h4) bM.out;exact⟨h1,fun k hk=>Qk (aL k hk) hW.size,h3,h4,⟨u2,k3⟩,(hW.frozen (p:=⟨bb,_,none⟩) (aL _ ag)).trans ((av.frozen (p:=⟨bb,_,none⟩) (hT _ ag).2).trans (ae bb ag _))⟩
 have KD:Hid (∀W,Below W1.heap.size W1 W->Below W0.heap.size W0 W):=fun W hW=>aK.trans (hW.mono aK.size)
 have di:Hid (∀k,T k->W0.heap.size<=k):=fun k hk=>(hT k hk).1
 have au:Hid (W0.heap.size<=bb/\bb<w1.heap.size):=hT bb ag;obtain⟨⟨⟨m0,m1,m2,m3,m4,m5,m6,m7⟩,m8⟩,aG⟩:=aV.out W1 aK;have bN:=hid aG;have aW:=hid ag;have n1:¬w.heap.size=bb:=by have:=au.out.1;omega
 have n2':¬bb=w.heap.size:=by have:=au.out.1;omega
 have n3:¬w1.heap.size=bb:=by have:=au.out.2;omega
 have n4:¬bb=w1.heap.size:=by have:=au.out.2;omega
 have dz:=hid aT;obtain⟨_,_,_,_,⟨u5,k5⟩,f5⟩:=KC.out W1 (Qg _ _);clear aN aD ae bL aQ av aK hT ag aT aG;subst hB
 go_upto_region 2 with fail
 try rw[aI]
 clear aI
 go_wp2_with fail
 go_region_held3 (fun w'=>w'.cell? ⟨w.heap.size,2,none⟩=some (.int .i64 at_)/\w'.cell? ⟨w.heap.size,3,none⟩=some (.int .i64 n)/\w'.cell? ⟨w.heap.size,5,none⟩=some (.int .i64 (s:Int))/\w'.cell? ⟨w.heap.size,8,none⟩=some (.slice A l.length cap)/\w'.cell? ⟨w1.heap.size,3,none⟩=some (.slice (some ⟨bb,x,none⟩) t0.kids.length c)) (go_keep) (first
  |(go_at_call 174;refine(CC.out _ (Xj bN.out)).mono ?_;rintro e w5 ⟨v5,rfl,aM,bH⟩;obtain⟨A5,c5,rfl⟩:=aM.form;have dw:=hid aM;have aJ:=hid (Xo bH);clear aM bH;obtain⟨⟨⟨m0,m1,m2,m3,m4,m5,m6,m7⟩,m8⟩,df⟩:=aV.out _ (KD.out w5 aJ.out);obtain⟨_,_,_,aU,⟨u5,k5⟩,f5⟩:=KC.out w5 aJ.out;clear df))
 obtain⟨bA,aS,bK,aj,_,_⟩:=KC.out w5 aJ.out;have hs1:w1.heap.size<W1.drew.heap.size:=ah;have bY:=zIq (T':=fun q=>S q\/w.heap.size<=q/\q<w5.heap.size) (W':=w5.setCell ⟨bb,x+s*4+3,none⟩ (.slice A5 L.length c5)) bA aS dz.out bK bM.out aj aW.out dx.out dw.out (fun q hq=>by
  have h1:=au.out;have h2:w.heap.size<=w5.heap.size:=Qf bN.out.size aJ.out.size;rcases hq with hq|hq
  ·have hq:=dm.out q hq;exact⟨by omega,by omega⟩
  ·exact⟨by omega,hq.2⟩) (fun k hk=>.inr ⟨Qf bP.out.size (di.out k hk),aS k hk⟩) (fun k hk=>by
  rcases hk with hk|hk
  ·exact .inl hk
  exact .inr ⟨by have h1:=au.out;have h2:=bP.out.size;omega,hk.2⟩) rfl
 have bG:=(KD.out w5 aJ.out).setCell (p:=⟨bb,x+s*4+3,none⟩) au.out.1 (.slice A5 L.length c5);have dh:Hid ((w5.setCell ⟨bb,x+s*4+3,none⟩ (.slice A5 L.length c5)).heap.size=w5.heap.size):=by show _=_;simp[World.setCell]
 have e9:(w5.setCell ⟨bb,x+s*4+3,none⟩ (.slice A5 L.length c5)).cell? ⟨w1.heap.size,3,none⟩=some (.slice (some ⟨bb,x,none⟩) t0.kids.length c):=(World.cell?_setCell_other _ _ _ _ (by intro e;injection e with e;omega)).trans aj;generalize (w5.setCell ⟨bb,x+s*4+3,none⟩ (.slice A5 L.length c5))=W6 at *;obtain⟨v6,⟨e0,e1,e2,e3⟩,aA,bu⟩:=bY;obtain rfl:v6=_:=Option.some.inj (e3.symm.trans e9);obtain⟨⟨⟨m0,m1,m2,m3,m4,m5,m6,m7⟩,m8⟩,aH⟩:=aV.out W6 bG;generalize Zj t0 s L=R at *;have HH:=hid (HJ.out W6 _ _ R aA aH rfl (by rw[dh.out];exact bu));clear bG aH aA bu bA aS bK aj;simp only[Nat.zero_add] at e0 e1 e2 e3
 go_wp2_with fail
 refine HH.out.mono ?_;rintro e w7 ⟨v7,rfl,bq,bD⟩;have dn:=hid bq;have dA:=hid bD;clear bq bD
 go_wp2_with fail
 refine bodyPost_ret (v:=.tuple #[v7,.int .i64 0]) (by simp[results,Tryz.results164,go_sem]) rfl ?_;exact⟨v7,rfl,dn.out,dA.out⟩
def Sa (l:List Z9) (a s:Nat) (n:Int) (it nd:Z9):List Z9×Int :=
 if it.kids.length<=s then ([],7) else if (((it.kids.getD s ZN).kids.length:Int) != n)=true then ([],7) else if Yv it (Zj nd s (it.kids.getD s ZN).kids)=true then (Zn l a (a+1) (it.kids.getD s ZN).kids,0) else ([],7)
theorem zM5 (op:ZL) (l:List Z9) (a lr s:Nat) (it nd:Z9) (Ar An A:Option Addr) (cr cn cap:Nat) (w:World) (S:Nat->Prop) (hS:∀q,S q->q<w.heap.size) (hl:Z8 Z6 w S l (.slice A l.length cap)) (hn:Z8 Z6 w S op.nodes (.slice An op.nodes.length cn))
  (dX:op.nodes=[nd]) (hs:op.slot=s) (dV:s<nd.kids.length) (di:nd.kids[s]=Z7 []) (ha:op.at_=a) (bL:a<l.length) (dn:l[a]=it) (dw:(it.kind==1)=false) (dA:ZR it<=400000) (cO:∀h:s<it.kids.length,it.kids[s]=Z7 it.kids[s].kids) (dY:l.length<=50000) :
  Calls Tryz.prog 165 #[.agg (Yt op (.slice Ar lr cr) (.slice An op.nodes.length cn) (.slice A l.length cap))] w (Xz S w (Sa l a s op.n it nd)):=by
 obtain⟨W0,hW0,hz,KB⟩:=Qp op (.slice Ar lr cr) (.slice An op.nodes.length cn) (.slice A l.length cap) w;have aN:=hid KB;obtain⟨⟨⟨m0,m1,m2,m3,m4,m5,m6,m7⟩,m8⟩,aH⟩:=KB W0 (Qg _ _);have dN:=hid aH;have hJ:∀W (R:List Z9) A5 c5,Below w.heap.size w W->R.length<=400000->Z8 Z6 W (fun q=>S q\/w.heap.size<=q/\q<W.heap.size) R (.slice A5 R.length c5)->Calls Tryz.prog 171 #[.agg (Yt op (.slice Ar lr cr) (.slice An op.nodes.length cn) (.slice A l.length cap)),.int .i64 1,.slice A5 R.length c5] W (XL S w (Zn l a (a+1) R)):=fun W R A5 c5 hW hR hr =>
  (zGa op l R 1 a (a+1) lr Ar A A5 (.slice An op.nodes.length cn) cr cap c5 _ (fun q=>S q\/w.heap.size<=q/\q<W.heap.size) (fun q hq=>by
   rcases hq with hq|hq
   ·exact Qk (hS q hq) hW.size
   exact hq.2) ((Yx hl hS hW).keep (fun _ _=>rfl) (fun _ h=>.inl h)) hr ha (by omega) (by omega) bL (by omega)).mono fun e w' h=>h.wide (fun q hq=>hq) hW
 have HJ:=hid hJ;obtain⟨kind,row,at_,n,nodes,slot,old,text⟩:=op;simp only[Yt] at *;subst dX hs ha;obtain⟨_,_,rs0,hq,_,_,aQ,aU⟩:=hn;cases hq;obtain⟨g0,o0,A0,c0,dQ,rfl,ed,cu,bZ,bY,bW,b1,b2,b3,b4,b5,aP,aT⟩:=YW aQ aU (k:=0) (by simp);simp only[Nat.zero_mul,Nat.add_zero,List.getElem_cons_zero,List.length_cons,List.length_nil,Nat.zero_add] at *;have aR:Z8 Z6 w S nd.kids (.slice A0 nd.kids.length c0):=⟨_,_,dQ,rfl,b4,b5,aP,aT⟩;have ax:g0<w.heap.size:=hS g0 ed;have KN:Hid (∀W,Below w.heap.size w W->W.cell? ⟨g0,o0,none⟩=some (.int .i64 nd.kind)/\W.cell? ⟨g0,o0+1,none⟩=some (.string nd.text)/\W.cell? ⟨g0,o0+2,none⟩=some (.int .i64 nd.cols)/\W.cell? ⟨g0,o0+3,none⟩=some (.slice A0 nd.kids.length c0)):=fun W hW =>
  ⟨(hW.cell (p:=⟨g0,_,none⟩) ax).trans cu,(hW.cell (p:=⟨g0,_,none⟩) ax).trans bZ,(hW.cell (p:=⟨g0,_,none⟩) ax).trans bY,(hW.cell (p:=⟨g0,_,none⟩) ax).trans bW⟩
 have eF:=hid aR;have dZ:=hl;obtain⟨_,_,rs2,hq,_,_,aO,aS⟩:=dZ;cases hq;obtain⟨gi,oi,Ai,ci,dP,rfl,d9,bD,bC,bB,bA,d1,d2,d3,d4,d5,aB,aD⟩:=YW aO aS bL;simp only[dn] at bD bC bB bA d1 d2 d3 d4 d5 aB aD;have aC:Zk it:=⟨d1,d2,d3⟩;have dm:Z8 Z6 w S it.kids (.slice Ai it.kids.length ci):=⟨_,_,dP,rfl,d4,d5,aB,aD⟩;have av:gi<w.heap.size:=hS gi d9;have q0:=(aH.cell (p:=⟨gi,_,none⟩) av).trans bD;have q1:=(aH.cell (p:=⟨gi,_,none⟩) av).trans bC;have q2:=(aH.cell (p:=⟨gi,_,none⟩) av).trans bB;have q3:=(aH.cell (p:=⟨gi,_,none⟩) av).trans bA;have CD:=hid (zDt it Ai ci W0 (TR dm hS aH) aC (by omega));have CS:Hid (∀A' c' W,Calls Tryz.prog 128 #[.agg #[.int .i64 it.kind,.string it.text,.int .i64 it.cols,.slice A' it.kids.length c']] W fun e w'=>e=.returned (.int .i64 it.kids.length)/\Below W.heap.size W w'):=fun A' c' W=>by
  have h:=zK0 it A' c' W;have e:U3 it=it.kids.length:=by unfold U3;exact if_neg (by simpa using dw)
  rw[e] at h;exact h
 have dh:=XW it;have i0:(0:Int)<=(a:Int):=by omega
 have i1:(a:Int)<(l.length:Int):=by omega
 have i2:(0:Int)<=(s:Int):=by omega
 have eG:=hid di;have bN:=hid aC;have eB:=hid dV;have HKL:=hid (Qf dh dA);have bM:=hid cO;have bQ:Hid (∀h:s<it.kids.length,it.kids[s].kids.length<=400000):=fun h=>by
  have h1:=Qr h;have h2:=XW it.kids[s];omega
 have eu:=hid hS;clear hl hS KB aH hJ aQ aU aP aT cu bZ bY bW b1 b2 b3 b4 b5 aR bL dY dA di aO aS aB aD bD bC bB bA d1 d2 d3 d4 d5 dm aC dh dw cO dn;have aV:it.kids.length<=s\/s<it.kids.length:=by omega
 rcases aV with ak|ak
 ·have HU:Hid (Sa l a s n it nd=([],7)):=by show _=_;unfold Sa;exact if_pos ak
  rw[HU.out];have i3:decide ((it.kids.length:Int)<=(s:Int))=true:=by simpa using ak
  clear HU HJ bM bQ;go_enter Tryz.func165,Tryz.ntmps165
  go_wp2_with fail
  refine CD.out.mono ?_;rintro e w1 ⟨v,T,rfl,aF,hT,aL,au,ae,_⟩;obtain⟨A4,c4,rfl⟩:=aL.form;obtain⟨W1,af⟩:∃W1,w1.alloc (Obj.cells #[.int .i64 it.kind,.string it.text,.int .i64 it.cols,.slice A4 it.kids.length c4] 24)=W1:=⟨_,rfl⟩;have az:Below w1.heap.size w1 W1:=by rw[<-af];exact ZW _ _
  have aA:Below W0.heap.size W0 W1:=aF.trans (az.mono aF.size);obtain⟨⟨⟨m0,m1,m2,m3,m4,m5,m6,m7⟩,m8⟩,ah⟩:=aN.out W1 aA;have eP:=hid ah;have bR:=hid aA;have p0:W1.cell? ⟨w1.heap.size,0,none⟩=some (.int .i64 it.kind):=by rw[<-af];exact ZT _ _ _ _ _ rfl
  have p1:W1.cell? ⟨w1.heap.size,1,none⟩=some (.string it.text):=by rw[<-af];exact ZT _ _ _ _ _ rfl
  have p2:W1.cell? ⟨w1.heap.size,2,none⟩=some (.int .i64 it.cols):=by rw[<-af];exact ZT _ _ _ _ _ rfl
  have p3:W1.cell? ⟨w1.heap.size,3,none⟩=some (.slice A4 it.kids.length c4):=by rw[<-af];exact ZT _ _ _ _ _ rfl
  clear aL au ae aF az aA hT ah
  go_upto_region 2 with fail
  try rw[af]
  clear af;have KP:Hid (∀W,Below W1.heap.size W1 W->W.cell? ⟨w1.heap.size,0,none⟩=some (.int .i64 it.kind)/\W.cell? ⟨w1.heap.size,1,none⟩=some (.string it.text)/\W.cell? ⟨w1.heap.size,2,none⟩=some (.int .i64 it.cols)/\W.cell? ⟨w1.heap.size,3,none⟩=some (.slice A4 it.kids.length c4)):=fun W hW =>
   ⟨(hW.cell (p:=⟨w1.heap.size,0,none⟩) (Y0 p0)).trans p0,(hW.cell (p:=⟨w1.heap.size,1,none⟩) (Y0 p1)).trans p1,(hW.cell (p:=⟨w1.heap.size,2,none⟩) (Y0 p2)).trans p2,(hW.cell (p:=⟨w1.heap.size,3,none⟩) (Y0 p3)).trans p3⟩
  go_wp2_with fail
  go_region_held3 (fun w'=>w'.cell? ⟨w.heap.size,5,none⟩=some (.int .i64 (s:Int))/\w'.cell? ⟨w1.heap.size,0,none⟩=some (.int .i64 it.kind)/\w'.cell? ⟨w1.heap.size,1,none⟩=some (.string it.text)/\w'.cell? ⟨w1.heap.size,2,none⟩=some (.int .i64 it.cols)/\w'.cell? ⟨w1.heap.size,3,none⟩=some (.slice A4 it.kids.length c4)) (go_keep) (first
   |(go_at_call 128;refine(CS.out _ _ _).mono ?_;rintro e w5 ⟨rfl,aW⟩;have aK:=hid (Xo aW);clear aW;obtain⟨p0,p1,p2,p3⟩:=KP.out w5 aK.out;obtain⟨⟨⟨m0,m1,m2,m3,m4,m5,m6,m7⟩,m8⟩,ay⟩:=aN.out _ (Zo bR.out aK.out);have dM:=hid ay;clear ay))
  go_wp2_with fail
  refine bodyPost_ret (v:=.tuple #[.slice none 0 0,.int .i64 7]) (by simp[results,Tryz.results165,go_sem]) rfl ?_;exact⟨_,rfl,Z8.nil_ 0 (Qj _) none,dM.out⟩
 have i3:decide ((it.kids.length:Int)<=(s:Int))=false:=by simpa using ak
 have i3':¬it.kids.length<=s:=by omega
 have i4:(s:Int)<(it.kids.length:Int):=by omega
 obtain⟨aa,bJ⟩:∃aa,aa=it.kids[s].kids:=⟨_,rfl⟩;have ag:=bM.out ak;rw[<-bJ] at ag;have dz:it.kids.getD s ZN=Z7 aa:=by rw[List.getD_eq_getElem?_getD,List.getElem?_eq_getElem ak,Option.getD_some,ag]
 have HU:Hid (Sa l a s n it nd=if ((aa.length:Int) != n)=true then ([],7) else if Yv it (Zj nd s aa)=true then (Zn l a (a+1) aa,0) else ([],7)):=by
  show _=_;unfold Sa;rw[if_neg (by omega),dz];rfl
 generalize Sa l a s n it nd=RES at *;have bK:=bQ.out ak;rw[<-bJ] at bK;have bP:=hid (zOf ak ag eB.out eG.out);have bn:=hid ag;have dK:=hid ak;have eH:=hid bK;clear bM bQ ag bJ dz bK;go_enter Tryz.func165,Tryz.ntmps165
 go_wp2_with fail
 refine CD.out.mono ?_;rintro e w1 ⟨v,T,rfl,aF,hT,aL,au,ae,_⟩;obtain⟨bb,x,c,rfl,aM⟩:=zGo aL (by omega);obtain⟨W1,af⟩:∃W1,w1.alloc (Obj.cells #[.int .i64 it.kind,.string it.text,.int .i64 it.cols,.slice (some ⟨bb,x,none⟩) it.kids.length c] 24)=W1:=⟨_,rfl⟩;obtain⟨B,hB⟩:∃B,B=w1.heap.size:=⟨_,rfl⟩;have az:Below w1.heap.size w1 W1:=by rw[<-af];exact ZW _ _
 have aA:Below W0.heap.size W0 W1:=aF.trans (az.mono aF.size);have dG:¬T B:=fun h=>by have:=(hT B h).2;omega
 have dF:Yo W1 T B 0 it:=⟨_,by refine⟨?_,?_,?_,?_⟩<;>(rw[hB,<-af,World.cell?_alloc_new];rfl),bN.out,aL.keep (fun q hq=>az.cell (hT _ hq).2) (fun _ h=>h)⟩;have aY:W1.cell? ⟨B,3,none⟩=some (.slice (some ⟨bb,x,none⟩) it.kids.length c):=by rw[hB,<-af,World.cell?_alloc_new];rfl
 have aX:B<W1.heap.size:=Y0 aY;have KC:Hid (∀W,Below W1.heap.size W1 W->Xb W T/\(∀k,T k->k<W.heap.size)/\Yo W T B 0 it/\W.cell? ⟨B,3,none⟩=some (.slice (some ⟨bb,x,none⟩) it.kids.length c)/\Yo W T bb (x+s*4) (Z7 aa)/\W.frozen? ⟨bb,x+s*4+3,none⟩=false):=fun W hW=>by
  have bq:∀k,T k->k<W1.heap.size:=fun k hk=>Qk (hT k hk).2 az.size
  have h1:=(au.keep (fun q hq=>az.cell (hT _ hq).2)).keep (W':=W) (fun q hq=>hW.cell (bq _ hq));obtain⟨u,dU,dS,dR⟩:=dF;have h3:Yo W T B 0 it:=⟨u,dU.keep (fun j _=>hW.cell (p:=⟨B,_,none⟩) aX),dS,dR.keep (fun q hq=>hW.cell (bq _ hq)) (fun _ h=>h)⟩;have h4:=(hW.cell (p:=⟨B,3,none⟩) aX).trans aY;have h5:=Qw h3 (by simpa using h4) dK.out;rw[bn.out] at h5;exact⟨h1,fun k hk=>Qk (bq k hk) hW.size,h3,h4,h5,(hW.frozen (p:=⟨bb,_,none⟩) (bq _ aM)).trans ((az.frozen (p:=⟨bb,_,none⟩) (hT _ aM).2).trans (ae bb aM _))⟩
 have KD:Hid (∀W,Below W1.heap.size W1 W->Below W0.heap.size W0 W):=fun W hW=>aA.trans (hW.mono aA.size)
 have dI:Hid (∀k,T k->W0.heap.size<=k):=fun k hk=>(hT k hk).1
 have bg:Hid (W0.heap.size<=bb/\bb<w1.heap.size):=hT bb aM;obtain⟨⟨⟨m0,m1,m2,m3,m4,m5,m6,m7⟩,m8⟩,ah⟩:=aN.out W1 aA;have eP:=hid ah;have aZ:=hid aM;have eQ:=hid dG;have n1:¬w.heap.size=bb:=by have:=bg.out.1;omega
 have n2':¬bb=w.heap.size:=by have:=bg.out.1;omega
 have n3:¬w1.heap.size=bb:=by have:=bg.out.2;omega
 have n4:¬bb=w1.heap.size:=by have:=bg.out.2;omega
 obtain⟨_,_,⟨u0,⟨p0,p1,p2,_⟩,_⟩,_⟩:=KC.out W1 (Qg _ _);clear aL au ae dF aF az aA hT aM dG ah;subst hB;simp only[Nat.zero_add] at p1 p2;have KP:Hid (∀W,Below W1.heap.size W1 W->W.cell? ⟨w1.heap.size,0,none⟩=some (.int .i64 it.kind)/\W.cell? ⟨w1.heap.size,1,none⟩=some (.string it.text)/\W.cell? ⟨w1.heap.size,2,none⟩=some (.int .i64 it.cols)/\W.cell? ⟨w1.heap.size,3,none⟩=some (.slice (some ⟨bb,x,none⟩) it.kids.length c)):=fun W hW =>
  ⟨(hW.cell (p:=⟨w1.heap.size,0,none⟩) (Y0 p0)).trans p0,(hW.cell (p:=⟨w1.heap.size,1,none⟩) (Y0 p1)).trans p1,(hW.cell (p:=⟨w1.heap.size,2,none⟩) (Y0 p2)).trans p2,(hW.cell (p:=⟨w1.heap.size,3,none⟩) (Y0 aY)).trans aY⟩
 go_upto_region 2 with fail
 try rw[af]
 clear af
 go_wp2_with fail
 go_region_held3 (fun w'=>w'.cell? ⟨w.heap.size,5,none⟩=some (.int .i64 (s:Int))/\w'.cell? ⟨w1.heap.size,0,none⟩=some (.int .i64 it.kind)/\w'.cell? ⟨w1.heap.size,1,none⟩=some (.string it.text)/\w'.cell? ⟨w1.heap.size,2,none⟩=some (.int .i64 it.cols)/\w'.cell? ⟨w1.heap.size,3,none⟩=some (.slice (some ⟨bb,x,none⟩) it.kids.length c)) (go_keep) (first
  |(go_at_call 128;refine(CS.out _ _ _).mono ?_;rintro e w5 ⟨rfl,aW⟩;have aK:=hid (Xo aW);clear aW;obtain⟨p0,p1,p2,aY⟩:=KP.out w5 aK.out;obtain⟨⟨⟨m0,m1,m2,m3,m4,m5,m6,m7⟩,m8⟩,ay⟩:=aN.out _ (KD.out w5 aK.out);have dM:=hid ay;clear ay))
 obtain⟨bI,bu,dE,aG,⟨vi,⟨_,_,_,k5⟩,_,bG⟩,f5⟩:=KC.out w5 aK.out;obtain⟨dO,dH,rfl⟩:∃A c,vi=.slice A aa.length c:=bG.form;have cB:=zFq bG k5;have cK:=zIq (W':=w5.setCell ⟨bb,x+s*4+3,none⟩ (.slice none 0 0)) (T':=fun q=>w.heap.size<=q/\q<w5.heap.size) (L:=[]) (S2:=fun _=>False) bI bu eQ.out dE dK.out aG aZ.out bn.out (Z8.nil_ 0 (Qj _) none) (fun q hq=>hq.elim) (fun k hk=>⟨Qf dN.out.size (dI.out k hk),bu k hk⟩) (fun k hk=>hk.elim) rfl;have dD:=(KD.out w5 aK.out).setCell (p:=⟨bb,x+s*4+3,none⟩) bg.out.1 (.slice none 0 0);have e9:(w5.setCell ⟨bb,x+s*4+3,none⟩ (.slice none 0 0)).cell? ⟨w1.heap.size,3,none⟩=some (.slice (some ⟨bb,x,none⟩) it.kids.length c):=(World.cell?_setCell_other _ _ _ _ (by intro e;injection e with e;omega)).trans aG;have dx:Z8 Z6 (w5.setCell ⟨bb,x+s*4+3,none⟩ (.slice none 0 0)) (fun q=>w.heap.size<=q/\q<w5.heap.size) aa (.slice dO aa.length dH):=cB.keep (fun q hq=>World.cell?_setCell_other _ _ _ _ (by intro e;have h1:=hq.gt bI aZ.out;rw[<-e] at h1;exact Nat.lt_irrefl _ h1)) (fun q hq=>⟨Qf dN.out.size (dI.out q hq.mem),bu q hq.mem⟩);have bz:Hid ((w5.setCell ⟨bb,x+s*4+3,none⟩ (.slice none 0 0)).heap.size=w5.heap.size):=by show _=_;simp[World.setCell]
 have dJ:=hid cK;have aJ:=hid dD;have eO:=hid dx;clear bI bu dE aG bG cB cK dD dx
 go_upto_region 6 with fail
 generalize w5.setCell ⟨bb,x+s*4+3,none⟩ (.slice none 0 0)=W6 at *;obtain⟨v6,⟨e0,e1,e2,e3⟩,bH,df⟩:=dJ.out;obtain rfl:v6=_:=Option.some.inj (e3.symm.trans e9);obtain⟨⟨⟨m0,m1,m2,m3,m4,m5,m6,m7⟩,m8⟩,aj⟩:=aN.out W6 aJ.out;obtain⟨k0,k1,k2,k3⟩:=KN.out W6 aj;have CE:Hid (∀W,Below W6.heap.size W6 W->Calls Tryz.prog 173 #[.agg #[.int .i64 it.kind,.string it.text,.int .i64 it.cols,.slice (some ⟨bb,x,none⟩) it.kids.length c],.agg #[.int .i64 nd.kind,.string nd.text,.int .i64 nd.cols,.slice A0 nd.kids.length c0]] W (XA W (Yv it (Zj nd s aa)))):=fun W hW=>by
  rw[<-bP.out];have h9:=aj.trans (hW.mono aj.size);exact zJh (Zj it s []) nd W _ _ (df.keep (fun q hq=>hW.cell (by rw[bz.out];exact hq.2)) (fun q hq=>by have:=hW.size;rw[bz.out] at this;exact Qk hq.2 this)) (TR eF.out eu.out h9)
 have eT:=hid aj;simp only[Nat.zero_add] at e1 e2
 change W6.cell? ⟨w1.heap.size,0,none⟩=some (.int .i64 it.kind) at e0
 change W6.cell? ⟨w1.heap.size,1,none⟩=some (.string it.text) at e1
 change W6.cell? ⟨w1.heap.size,2,none⟩=some (.int .i64 it.cols) at e2
 clear e3 df bH aj dJ;cases hbn:((aa.length:Int) != n)
 ·have hR:=HU.out;rw[hbn,if_neg (by decide)] at hR;generalize ek:Yv it (Zj nd s aa)=bE at *;have HR:=hid hR;clear hR ek HU bP;have KF:Hid (∀W,Below W6.heap.size W6 W->Below W0.heap.size W0 W):=fun W hW=>aJ.out.trans (hW.mono aJ.out.size)
  cases bE
  all_goals
   have hR:=HR.out;simp only[if_true,if_false,Bool.false_eq_true] at hR;subst hR
   go_wp2_with fail
   go_region_held3 (fun w'=>w'.cell? ⟨w.heap.size,3,none⟩=some (.int .i64 n)/\w'.cell? ⟨w.heap.size,4,none⟩=some (.slice (some ⟨g0,o0,none⟩) 1 cn)/\w'.cell? ⟨w1.heap.size,0,none⟩=some (.int .i64 it.kind)/\w'.cell? ⟨w1.heap.size,1,none⟩=some (.string it.text)/\w'.cell? ⟨w1.heap.size,2,none⟩=some (.int .i64 it.cols)/\w'.cell? ⟨w1.heap.size,3,none⟩=some (.slice (some ⟨bb,x,none⟩) it.kids.length c)/\w'.cell? ⟨g0,o0,none⟩=some (.int .i64 nd.kind)/\w'.cell? ⟨g0,o0+1,none⟩=some (.string nd.text)/\w'.cell? ⟨g0,o0+2,none⟩=some (.int .i64 nd.cols)/\w'.cell? ⟨g0,o0+3,none⟩=some (.slice A0 nd.kids.length c0)) (go_keep) (first
    |(go_at_call 173;refine(CE.out _ (Xj (Qg _ W6))).mono ?_;rintro e w7 ⟨rfl,dC⟩;have aI:=hid (Xo dC);clear dC;obtain⟨⟨⟨m0,m1,m2,m3,m4,m5,m6,m7⟩,m8⟩,ay⟩:=aN.out _ (KF.out w7 aI.out);obtain⟨k0,k1,k2,k3⟩:=KN.out _ ay;have dL:=hid ay;clear ay;have e0:=(aI.out.cell (p:=⟨w1.heap.size,0,none⟩) (Y0 e0)).trans e0;have e1:=(aI.out.cell (p:=⟨w1.heap.size,1,none⟩) (Y0 e1)).trans e1;have e2:=(aI.out.cell (p:=⟨w1.heap.size,2,none⟩) (Y0 e2)).trans e2;have e9:=(aI.out.cell (p:=⟨w1.heap.size,3,none⟩) (Y0 e9)).trans e9))
   go_wp2_with fail
  ·refine bodyPost_ret (v:=.tuple #[.slice none 0 0,.int .i64 7]) (by simp[results,Tryz.results165,go_sem]) rfl ?_;exact⟨_,rfl,Z8.nil_ 0 (Qj _) none,dL.out⟩
  refine(HJ.out w7 aa dO dH dL.out eH.out (eO.out.keep (fun q hq=>aI.out.cell (by show _<W6.heap.size;rw[bz.out];exact hq.2)) (fun q hq=>.inr ⟨hq.1,by have h9:W6.heap.size<=w7.heap.size:=aI.out.size;rw[bz.out] at h9;exact Qk hq.2 h9⟩))).mono ?_;rintro e w8 ⟨v8,rfl,cZ,dB⟩;have eD:=hid cZ;have bU:=hid dB;clear cZ dB
  go_wp2_with fail
  refine bodyPost_ret (v:=.tuple #[v8,.int .i64 0]) (by simp[results,Tryz.results165,go_sem]) rfl ?_;exact⟨v8,rfl,eD.out,bU.out⟩
 have hR:=HU.out;rw[hbn,if_pos rfl] at hR;subst hR;clear HU bP CE
 go_wp2_with fail
 go_quiet (fail)
 go_wp2_with fail
 refine bodyPost_ret (v:=.tuple #[.slice none 0 0,.int .i64 7]) (by simp[results,Tryz.results165,go_sem]) rfl ?_;exact⟨_,rfl,Z8.nil_ 0 (Qj _) none,Sj eT.out⟩
