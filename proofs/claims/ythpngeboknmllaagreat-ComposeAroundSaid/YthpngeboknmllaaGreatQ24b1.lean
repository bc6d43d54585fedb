/- T -/
import Derived.Test.YthpngeboknmllaaGreatQ9831
set_option linter.unusedVariables false
set_option linter.unusedSimpArgs false
set_option maxHeartbeats 8000000
set_option maxRecDepth 100000
namespace Go.Proofs.YthpngeboknmllaaGreat
open Go.RowKit
theorem Vl (t:Z9) (ops:List ZB) (A Ao:Option Addr) (cap co:Nat) (w:World) (hv:Z8 Z7 w (Lt w.heap.size) t.kids (.slice A t.kids.length cap)) (aP:Zt t) (cZ:ZW t<=900000) (ho:Z8 Zb w (Lt w.heap.size) ops (.slice Ao ops.length co)) (hol:ops.length<=1000) :
  Calls Tryz.prog 88 #[.agg #[.int .i64 t.kind,.string t.text,.int .i64 t.cols,.slice A t.kids.length cap],.slice Ao ops.length co] w (zIx w (Xn t ops)):=by
 have C1:Hid (∀W,Below w.heap.size w W->Calls Tryz.prog 53 #[.agg #[.int .i64 t.kind,.string t.text,.int .i64 t.cols,.slice A t.kids.length cap]] W fun e w'=>e=.returned (.bool (ZN t))/\Below W.heap.size W w'):=fun W hW=>UN t A cap W (hv.below hW hW.size) aP.2.2
 have C2:Hid (∀W,Below w.heap.size w W->Calls Tryz.prog 95 #[.agg #[.int .i64 t.kind,.string t.text,.int .i64 t.cols,.slice A t.kids.length cap]] W (zVx W t)):=fun W hW=>Re t A cap W (hv.below hW hW.size) aP (by omega)
 have HA:Hid ((ZN t=false->Xn t ops=(ZJ,1))/\(ZN t=true->Xn t ops=WK t ops)):=⟨fun h=>if_pos h,fun h=>if_neg (by simp[h])⟩;have CA:Hid (∀k (hk:k<ops.length),∃g o Ar An cr cn,Ao=some ⟨g,o,none⟩/\(∀W,Below w.heap.size w W->(W.cell? ⟨g,o+k*8,none⟩=some (.int .i64 ops[k].kind)/\W.cell? ⟨g,o+k*8+1,none⟩=some (.slice Ar ops[k].row.length cr)/\W.cell? ⟨g,o+k*8+2,none⟩=some (.int .i64 ops[k].at_) /\
   W.cell? ⟨g,o+k*8+3,none⟩=some (.int .i64 ops[k].n)/\W.cell? ⟨g,o+k*8+4,none⟩=some (.slice An ops[k].nodes.length cn)/\W.cell? ⟨g,o+k*8+5,none⟩=some (.int .i64 ops[k].slot)/\W.cell? ⟨g,o+k*8+6,none⟩=some (.string ops[k].old)/\W.cell? ⟨g,o+k*8+7,none⟩=some (.string ops[k].text)) /\
   ∀(n:Z9) (A':Option Addr) (c':Nat),Zt n->ZN n=true->Z8 Z7 W (Lt W.heap.size) n.kids (.slice A' n.kids.length c')->Calls Tryz.prog 116 #[.agg #[.int .i64 n.kind,.string n.text,.int .i64 n.cols,.slice A' n.kids.length c'],.agg (Zu ops[k] (.slice Ar ops[k].row.length cr) (.slice An ops[k].nodes.length cn))] W (XC W (Ze n ops[k]).1 (Ze n ops[k]).2))):=by
  intro k hk;obtain⟨_,_,rso,hq,_,_,bi,az⟩:=ho;cases hq;obtain⟨g,o,Ar,An,cr,cn,e,hg,p0,p1,p2,p3,p4,p5,p6,p7,hr,hn,h1,h2,_⟩:=Rq bi az hk;have ag:g<w.heap.size:=hg;refine⟨g,o,Ar,An,cr,cn,e,fun W hW=>⟨⟨(hW.cell (p:=⟨g,_,none⟩) ag).trans p0,(hW.cell (p:=⟨g,_,none⟩) ag).trans p1,(hW.cell (p:=⟨g,_,none⟩) ag).trans p2,(hW.cell (p:=⟨g,_,none⟩) ag).trans p3,(hW.cell (p:=⟨g,_,none⟩) ag).trans p4,(hW.cell (p:=⟨g,_,none⟩) ag).trans p5,(hW.cell (p:=⟨g,_,none⟩) ag).trans p6,(hW.cell (p:=⟨g,_,none⟩) ag).trans p7⟩,fun n A' c' au ay cK=>?_⟩⟩;exact zOy n ops[k] A' Ar An c' cr cn W cK au (by have:=(X0 ay).1;omega) (zP4 az hk) (hr.below hW hW.size) (hn.below hW hW.size)
 generalize Xn t ops=aY at *;generalize df:ZN t=bV at *;have bW:=hid aP;have bP:=hid df;clear hv aP cZ ho;obtain⟨W0,aW⟩:∃W0,(w.alloc (Obj.cells #[.int .i64 t.kind,.string t.text,.int .i64 t.cols,.slice A t.kids.length cap] 24)).alloc (Obj.cells #[.int .i64 0,.string ⟨#[]⟩,.int .i64 0,.slice none 0 0] 24)=W0:=⟨_,rfl⟩;have aj:Hid (W0.heap.size=w.heap.size+1+1):=by show _=_;rw[<-aW];simp
 have KB:Hid (∀W,Below W0.heap.size W0 W->FB W w.heap.size (.int .i64 t.kind) (.string t.text) (.int .i64 t.cols) (.slice A t.kids.length cap)/\FB W (w.heap.size+1) (.int .i64 0) (.string ⟨#[]⟩) (.int .i64 0) (.slice none 0 0)/\Below w.heap.size w W):=by
  intro W hW;have hz:W0.heap.size=w.heap.size+1+1:=aj.out;refine⟨FB.below (B:=W0.heap.size) ?_ hW (by omega),FB.below (B:=W0.heap.size) ?_ hW (by omega),Below.trans ?_ (hW.mono (by omega))⟩
  ·rw[<-aW];exact(FB.new w _ _ _ _ _ rfl).below (ZX _ _) (by simp)
  ·rw[<-aW];exact FB.new _ _ _ _ _ _ (by simp)
  rw[<-aW];exact Zq (ZX _ _) _
 obtain⟨⟨⟨m0,m1,m2,m3⟩,_⟩,⟨⟨c0,c1,c2,c3⟩,f0,f1,f2,f3⟩,aF⟩:=KB.out W0 (QQ _ _);have bG:=hid aF;clear aF;go_enter Tryz.func88,Tryz.ntmps88
 go_wp2_with fail
 refine(C1.out _ bG.out).mono ?_;rintro e w1 ⟨rfl,bz⟩;clear m0 m1 m2 m3 c0 c1 c2 c3 f0 f1 f2 f3;have aZ:=hid bz;obtain⟨⟨⟨m0,m1,m2,m3⟩,_⟩,⟨⟨c0,c1,c2,c3⟩,f0,f1,f2,f3⟩,aD⟩:=KB.out w1 bz;have aL:=hid aD;clear bz aD;cases bV
 ·have HC:=hid (QS c0 (QS c1 (QS c2 c3)))
  go_wp2_with fail
  generalize hW:(((w1.setCell _ (.int .i64 0)).setCell _ (.string ⟨#[]⟩)).setCell _ (.int .i64 0)).setCell _ (.slice none 0 0)=W;obtain⟨⟨r0,r1,r2,r3⟩,rz,rb,ro,_⟩:=four HC.out.1 HC.out.2.1 HC.out.2.2.1 HC.out.2.2.2 _ _ _ _ hW.symm;have ak:=hid (rb w.heap.size w (by omega) aL.out);clear hW ro rb;refine bodyPost_ret (v:=.tuple #[.agg #[.int .i64 0,.string ⟨#[]⟩,.int .i64 0,.slice none 0 0],.int .i64 0,.int .i64 1]) (by simp[results,Tryz.results88,go_sem,r0,r1,r2,r3]) rfl ?_;rw[HA.out.1 (by trivial)];exact⟨_,_,rfl,Z8.nil_ 0 (QU _) none,ak.out⟩
 have bQ:Hid (aY=WK t ops):=HA.out.2 (by trivial);clear HA
 go_wp2_with fail
 refine(C2.out _ aL.out).mono ?_;rintro e w2 ⟨v2,rfl,bn,aU⟩;obtain⟨A2,aX,rfl⟩:=bn.form;obtain⟨W3,aJ⟩:∃W3,w2.alloc (.cells #[.int .i64 t.kind,.string t.text,.int .i64 t.cols,.slice A2 t.kids.length aX] 24)=W3:=⟨_,rfl⟩;have aT:Below w2.heap.size w2 W3:=by rw[<-aJ];exact ZX _ _
 have dz:Hid (Below W0.heap.size W0 W3):=aZ.out.trans ((aU.trans (aT.mono aU.size)).mono aZ.out.size);have bY:Hid (FB W3 w2.heap.size (.int .i64 t.kind) (.string t.text) (.int .i64 t.cols) (.slice A2 t.kids.length aX)):=by rw[<-aJ];exact FB.new _ _ _ _ _ _ rfl
 have cB:Hid (W0.heap.size<=w2.heap.size):=QP aZ.out.size aU.size;have dB:Hid (w2.heap.size<W3.heap.size):=by rw[<-aJ];show _<_;simp
 have bU:Hid (Z8 Z7 W3 (fun q=>W0.heap.size<=q/\q≠w2.heap.size/\q<W3.heap.size) t.kids (.slice A2 t.kids.length aX)):=bn.keep (fun q hq=>aT.cell hq.2) (fun k hk=>⟨QP aZ.out.size hk.1,Nat.ne_of_lt hk.2,QV hk.2 aT.size⟩);clear bn aU aT m0 m1 m2 m3 c0 c1 c2 c3 f0 f1 f2 f3
 go_upto_region 4 with fail
 try rw[aJ]
 clear aJ
 go_wp2_with fail
 go_loopw [20] (fun i wr=>∃(k:Nat) (n:Z9) (A':Option Addr) (c':Nat),i=.int .i64 k/\k<=ops.length/\FB wr w2.heap.size (.int .i64 n.kind) (.string n.text) (.int .i64 n.cols) (.slice A' n.kids.length c')/\Z8 Z7 wr (fun q=>W0.heap.size<=q/\q≠w2.heap.size/\q<wr.heap.size) n.kids (.slice A' n.kids.length c')/\Zt n/\ZN n=true/\aY=WK n (ops.drop k)/\Below W0.heap.size W0 wr/\w2.heap.size<wr.heap.size) (fun i _=>ops.length-(intOf i).toNat)
 case atStart=>exact⟨0,t,A2,aX,rfl,QU _,bY.out,bU.out,bW.out,bP.out,bQ.out,dz.out,dB.out⟩
 obtain⟨k,n,A',c',rfl,hk,av,ax,au,ay,aa,aG,aQ⟩:=hrel;obtain⟨_,bg,ae⟩:=KB.out wr aG;rcases Nat.lt_or_ge k ops.length with bN|cO
 ·obtain⟨g,o,Ar,An,cr,cn,rfl,bu⟩:=CA.out k bN;obtain⟨⟨p0,p1,p2,p3,p4,p5,p6,p7⟩,_⟩:=bu wr ae;obtain⟨W4,aI⟩:∃W4,wr.alloc (.cells (Zu ops[k] (.slice Ar ops[k].row.length cr) (.slice An ops[k].nodes.length cn)) 49)=W4:=⟨_,rfl⟩;have ai:Below wr.heap.size wr W4:=by rw[<-aI];exact ZX _ _
  have aC:=ae.trans (ai.mono ae.size);have bH:=hid aG;have bI:=hid ((bu W4 aC).2 n A' c' au ay (ax.keep (fun q hq=>ai.cell hq.2.2) (fun q hq=>QV hq.2.2 ai.size)));have af:((Ze n ops[k]).2≠0->aY=(ZJ,(Ze n ops[k]).2))/\((Ze n ops[k]).2=0->aY=WK (Ze n ops[k]).1 (ops.drop (k+1))/\ZN (Ze n ops[k]).1=true/\Zt (Ze n ops[k]).1):=by
   rw[List.drop_eq_getElem_cons bN,WK] at aa;constructor
   ·intro h;rw[aa,if_pos h]
   intro h;rw[if_neg (by simp[h])] at aa;exact⟨aa,zJy au h⟩
  have ah:=hid af;have i5:decide ((k:Int)<(ops.length:Int))=true:=by rw[decide_eq_true_eq];omega
  have i6:(0:Int)<=(k:Int):=by omega
  have i7:(k:Int)<(ops.length:Int):=by omega
  obtain⟨⟨m0,m1,m2,m3⟩,f0,f1,f2,f3⟩:=av.below ai aQ;obtain⟨n0,n1,n2,n3⟩:=av.1;have HZ4:=hid (bg.below ai (by have:=aj.out;have:=bH.out.size;omega));have dn:Hid (Yv W4 wr.heap.size ops[k] (.slice Ar ops[k].row.length cr) (.slice An ops[k].nodes.length cn)):=by rw[<-aI];exact Yv.new _ _ _ _ _
  obtain⟨b0,b1,b2,b3,b4,b5,b6,b7⟩:=dn.out;have aK:=hid aQ;have bZ:=hid ai;have H4:Hid (wr.heap.size<W4.heap.size):=by rw[<-aI];show _<_;simp
  have bR:=hid ax;have bB:=hid av;clear af aa au ay ax bu ai aC aG aQ bg av CA C1 C2;generalize ops[k]=op at *;generalize Ze n op=R at *;obtain⟨⟨rk,rx,rc,rs⟩,er⟩:=R;obtain⟨nk,nx,nc,ns⟩:=n;obtain⟨kind,row,at_,n,nodes,slot,old,text⟩:=op;simp only[Zu,Z9.kind,Z9.text,Z9.cols,Z9.kids] at *;clear ae
  go_upto_region 7 with fail
  try rw[aI]
  clear aI n0 n1 n2 n3
  go_wp2_with fail
  refine bI.out.mono ?_;rintro e w5 ⟨v5,rfl,aO,aS⟩;simp only[Z9.kind,Z9.text,Z9.cols,Z9.kids] at aO ⊢;obtain⟨A5,c5,rfl⟩:=aO.form;obtain⟨W6,aV⟩:∃W6,w5.alloc (.cells #[.int .i64 rk,.string rx,.int .i64 rc,.slice A5 rs.length c5] 24)=W6:=⟨_,rfl⟩;have aR:Below w5.heap.size w5 W6:=by rw[<-aV];exact ZX _ _
  have aH:Below W4.heap.size W4 W6:=aS.trans (aR.mono aS.size);have aM:Hid (Below wr.heap.size wr W6):=bZ.out.trans (aH.mono bZ.out.size);have dm:Hid (Z8 Z7 W6 (fun q=>W4.heap.size<=q/\q<w5.heap.size) rs (.slice A5 rs.length c5)):=aO.keep (fun q hq=>aR.cell hq.2) (fun q hq=>hq);have aN:Hid (Below W0.heap.size W0 W6):=bH.out.trans (aM.out.mono bH.out.size);obtain⟨⟨x0,x1,x2,x3⟩,_⟩:FB W6 w5.heap.size (.int .i64 rk) (.string rx) (.int .i64 rc) (.slice A5 rs.length c5):=by rw[<-aV];exact FB.new _ _ _ _ _ _ rfl
  clear m0 m1 m2 m3 f0 f1 f2 f3 b0 b1 b2 b3 b4 b5 b6 b7 p0 p1 p2 p3 p4 p5 p6 p7;obtain⟨⟨m0,m1,m2,m3⟩,f0,f1,f2,f3⟩:=bB.out.below aM.out aK.out;obtain⟨_,⟨⟨c0,c1,c2,c3⟩,g0,g1,g2,g3⟩,aB⟩:=KB.out W6 aN.out;have bD:=hid aB;have cu:=hid aR.size;have dA:=hid aS.size;clear aO aS aR aH aB
  go_upto_region 8 with fail
  try rw[aV]
  clear aV;by_cases aA:er=0;rotate_left
  ·have i9:(er==0)=false:=by simpa using aA
   have i9':(er != 0)=true:=by simpa using aA
   have HE:=hid (ah.out.1 aA);clear m0 m1 m2 m3 f0 f1 f2 f3 x0 x1 x2 x3;have HC:=hid (QS c0 (QS c1 (QS c2 c3)))
   go_wp2_with fail
   generalize hW:(((W6.setCell _ (.int .i64 0)).setCell _ (.string ⟨#[]⟩)).setCell _ (.int .i64 0)).setCell _ (.slice none 0 0)=W;obtain⟨⟨r0,r1,r2,r3⟩,rz,rb,ro,_⟩:=four HC.out.1 HC.out.2.1 HC.out.2.2.1 HC.out.2.2.2 _ _ _ _ hW.symm;have ak:=hid (rb w.heap.size w (by omega) bD.out);clear hW ro rb;refine bodyPost_ret (v:=.tuple #[.agg #[.int .i64 0,.string ⟨#[]⟩,.int .i64 0,.slice none 0 0],.int .i64 (k:Int),.int .i64 er]) (by simp[results,Tryz.results88,go_sem,r0,r1,r2,r3]) rfl ?_;rw[HE.out];exact⟨_,_,rfl,Z8.nil_ 0 (QU _) none,ak.out⟩
  obtain⟨bM,bL,bK⟩:=ah.out.2 aA;have HQ:=hid (QS bM (QS bL bK));subst aA;have HM:=hid (QS m0 (QS m1 (QS m2 m3)));have HF:=hid (QS f0 (QS f1 (QS f2 f3)));clear bM bL bK c0 c1 c2 c3 g0 g1 g2 g3
  go_wp2_with fail
  generalize hW:(((W6.setCell _ (.int .i64 rk)).setCell _ (.string rx)).setCell _ (.int .i64 rc)).setCell _ (.slice A5 rs.length c5)=W;obtain⟨bJ,rz,rb,ro,rf⟩:=four HM.out.1 HM.out.2.1 HM.out.2.2.1 HM.out.2.2.2 _ _ _ _ hW.symm;have ak:=hid (rb W0.heap.size W0 cB.out aN.out);have dx:Hid (FB W w2.heap.size (.int .i64 rk) (.string rx) (.int .i64 rc) (.slice A5 rs.length c5)):=⟨bJ,(rf _).trans HF.out.1,(rf _).trans HF.out.2.1,(rf _).trans HF.out.2.2.1,(rf _).trans HF.out.2.2.2⟩;have dh:Hid (Z8 Z7 W (fun q=>W0.heap.size<=q/\q≠w2.heap.size/\q<W.heap.size) rs (.slice A5 rs.length c5)):=dm.out.keep (fun q hq=>ro q (by have:=hq.1;have:=H4.out;have:=aK.out;omega)) (fun q hq=>⟨by have:=hq.1;have:=H4.out;have:=aK.out;have:=cB.out;omega,by have:=hq.1;have:=H4.out;have:=aK.out;omega,by rw[rz];exact QV hq.2 cu.out⟩);have dw:Hid (w2.heap.size<W.heap.size):=by show _<_;rw[rz];have:=H4.out;have:=aK.out;have:=dA.out;have:=cu.out;omega
  clear hW rb ro rf bJ rz x0 x1 x2 x3 m0 m1 m2 m3 f0 f1 f2 f3;go_roundw
  case rel=>exact⟨k+1,.mk rk rx rc rs,A5,c5,by go_num,by omega,dx.out,dh.out,HQ.out.2.2,HQ.out.2.1,HQ.out.1,ak.out,dw.out⟩
  case measure=>simp[intOf];omega
 have he:ops.drop k=[]:=List.drop_eq_nil_of_le cO;rw[he,WK] at aa;subst aa;have i5:decide ((k:Int)<(ops.length:Int))=false:=by rw[decide_eq_false_iff_not];omega
 obtain⟨m0,m1,m2,m3⟩:=av.1;obtain⟨⟨c0,c1,c2,c3⟩,f0,f1,f2,f3⟩:=bg;have HC:=hid (QS c0 (QS c1 (QS c2 c3)));have bC:=hid ae;have bR:=hid ax;have HW:=hid aG.size;obtain⟨nk,nx,nc,ns⟩:=n;simp only[Z9.kind,Z9.text,Z9.cols,Z9.kids] at *;clear av ax au ay aG aQ ae CA C1 C2 bW bP bQ bU bY
 go_wp2_with fail
 generalize hW:(((wr.setCell _ (.int .i64 nk)).setCell _ (.string nx)).setCell _ (.int .i64 nc)).setCell _ (.slice A' ns.length c')=W;obtain⟨⟨r0,r1,r2,r3⟩,rz,rb,ro,_⟩:=four HC.out.1 HC.out.2.1 HC.out.2.2.1 HC.out.2.2.2 _ _ _ _ hW.symm;have ak:=hid (rb w.heap.size w (by omega) bC.out);have bA:Hid (Z8 Z7 W (Lt W.heap.size) ns (.slice A' ns.length c')):=bR.out.keep (fun q hq=>ro q (by have:=hq.1;have:=aj.out;omega)) (fun q hq=>by unfold Lt;rw[rz];exact hq.2.2);clear hW ro rb;refine bodyPost_ret (v:=.tuple #[.agg #[.int .i64 nk,.string nx,.int .i64 nc,.slice A' ns.length c'],.int .i64 0,.int .i64 0]) (by simp[results,Tryz.results88,go_sem,r0,r1,r2,r3]) rfl ?_;exact⟨_,_,rfl,bA.out,ak.out⟩
structure ZZ (N:Nat->Prop) (w w':World):Prop where
 os:w'.os=w.os
 tape:w'.tape=w.tape
 output:w'.output=w.output
 size:w.heap.size<=w'.heap.size
 block:∀k,k<w.heap.size->¬N k->w'.heap[k]?=w.heap[k]?
theorem ZZ.cell {N:Nat->Prop} {w w':World} (h:ZZ N w w') {p:Addr} (hp:p.block<w.heap.size) (hn:¬N p.block):w'.cell? p=w.cell? p:=World.cell?_of_block (h.block _ hp hn)
theorem ZZ.below {N:Nat->Prop} {w w':World} (h:ZZ N w w') {B:Nat} (hB:B<=w.heap.size) (hn:∀k,N k->B<=k):Below B w w':=⟨h.os,h.tape,h.output,h.size,fun k hk=>h.block k (QV hk hB) (fun e=>absurd (hn k e) (by omega))⟩
theorem ZZ.trans {N N':Nat->Prop} {w w1 w':World} (h:ZZ N w w1) (k:ZZ N' w1 w'):ZZ (fun b=>N b\/N' b) w w':=⟨k.os.trans h.os,k.tape.trans h.tape,k.output.trans h.output,QP h.size k.size,fun b hb hn=>(k.block b (QV hb h.size) (fun e=>hn (.inr e))).trans (h.block b hb (fun e=>hn (.inl e)))⟩
theorem ZZ.of_below {w w':World} (h:Below w.heap.size w w') (N:Nat->Prop):ZZ N w w':=⟨h.os,h.tape,h.output,h.size,fun k hk _=>h.block k hk⟩
theorem ZZ.grown {w w':World} {row:Option Nat} (h:w.grownBy w' row):ZZ (fun k=>some k=row) w w':=⟨h.os,h.tape,h.output,h.size,fun k hk hn=>h.block k hk (fun e=>hn e)⟩
theorem ZZ.set (w:World) (a:Addr) (v:Value):ZZ (fun k=>k=a.block) w (w.setCell a v):=⟨rfl,rfl,rfl,by simp[World.setCell],fun k _ hn=>Below.heap_setCell w a v k hn⟩
theorem ZZ.mono {N N':Nat->Prop} {w w':World} (h:ZZ N w w') (hn:∀k,k<w.heap.size->N k->N' k):ZZ N' w w':=⟨h.os,h.tape,h.output,h.size,fun k hk aa=>h.block k hk (fun e=>aa (hn k hk e))⟩
theorem ZZ.obj {N:Nat->Prop} {w w':World} {g:Nat} {o:Obj} (h:ZZ N w w') (ho:Z5 w g o) (hn:¬N g):Z5 w' g o:=(h.block g ho.lt hn).trans ho
theorem VP:UY 49 (.agg #[.int .i64 0,.slice none 0 0,.int .i64 0,.int .i64 0,.slice none 0 0,.int .i64 0,.string ⟨#[]⟩,.string ⟨#[]⟩]) 8 112:=by
 have h:(Tryz.prog.info? 49).map (fun i=>(i.zero,i.size,i.bytes))=some (some (.agg #[.int .i64 0,.slice none 0 0,.int .i64 0,.int .i64 0,.slice none 0 0,.int .i64 0,.string ⟨#[]⟩,.string ⟨#[]⟩]),8,112):=by kernel_rfl
 obtain⟨i,h1,h2,h3,h4⟩:=info_parts h;exact⟨i,h1,h2,h3,h4⟩
theorem zMj {w:World} {ops:Array Oper} {o:Oper} {a:Act} {K:Act->World->Prop} {Q:Exit->Act->World->Prop} {E:Prop} (ax:o.guard=none) (s x:Operand)
  (ho:o.op=.call { callee:=.builtin .append,args:=#[s,x],argTypes:=#[33,33] })
  (b:Nat) (v:Value) (xss yss:List ZB) (hs:a.eval s=v) (aa:Y7 Zb 49 w b xss v) (A:Option Addr) (m c:Nat) (hx:a.eval x=.slice A m c) (hr:Z8 Zb w (Yj b w v) yss (.slice A m c))
  (af:xss.length+yss.length<=1000000) (hb:b<=w.heap.size)
  (h:∀v' w',Y7 Zb 49 w' b (xss++yss) v'->w.grownBy w' v.ownBlock->(v'.ownBlock=v.ownBlock\/v'.ownBlock=some w.heap.size)->K (a.put o.dst v') w') :
  if Region.wanted o (yielded ops a.tmps)=true then Oper.wp Tryz.prog o a w K Q else E:=by
 obtain⟨i0,av,aj,ai,ah⟩:=VP;obtain⟨A',cap',rs,e,h1,h2,ak,ae⟩:=hr;injection e with e1 e2 e3
 subst e1 e2 e3;obtain⟨cs,ag,au⟩:=aa;have hl:=ae.len;refine Tj w ax s x 33 ho b 49 i0 _ 8 112 Tryz.underlying33 av aj ai ah rfl (by omega) v _ _ hs ag _ A _ c rs hx hl ak ae.one (by simp only[maxLen];omega) (by omega) hb ?_;intro v' w' h3 h4 h5;exact h v' w' (zOr ag au ae h3 h4 h5) h4 h5
theorem Un {α:Type} {E:YW α} {X:World} {g b:Nat} {T T':TypeId} {xs:List α} {v:Value} {arr:Array Value} (h:Y7 E T X b xs v) (ho:Z5 X g (.cells arr T')) (hT:T'≠T):some g≠v.ownBlock:=by
 intro e;obtain⟨cs,h1,_⟩:=h;rcases h1.2 with ⟨rfl,_⟩|⟨g',cap,cur,rfl,_,hh,_⟩
 ·simp[Value.ownBlock] at e
 simp[Value.ownBlock] at e;subst e;unfold Z5 at ho;rw[ho] at hh;injection hh with hh
 injection hh with _ h2 _
 exact hT h2
theorem zQr (x0 x1 x2 x3 x4 x5 x6 x7 x8 x9 av au ak aj ai ah ag af ae aa:Value) (w:World):Calls Tryz.prog 44 #[.agg #[x0,x1,x2,x3,x4,x5,x6,x7,x8,x9,av,au,ak,aj,ai,ah,ag,af,ae,aa]] w fun e w'=>∃B,e=.returned (.pointer (some ⟨B,0,none⟩))/\w.heap.size<=B/\Z5 w' B (.cells #[x0,x1,x2,x3,x4,x5,x6,x7,x8,x9,av,au,ak,aj,ai,ah,ag,af,ae,aa,.slice none 0 0,.slice none 0 0,.slice none 0 0,.slice none 0 0,.slice none 0 0] 86)/\Below w.heap.size w w':=by
 have ax:=ZX w (.cells #[x0,x1,x2,x3,x4,x5,x6,x7,x8,x9,av,au,ak,aj,ai,ah,ag,af,ae,aa] 69);have HB:=hid (ax.alloc (ax.size) (.cells #[x0,x1,x2,x3,x4,x5,x6,x7,x8,x9,av,au,ak,aj,ai,ah,ag,af,ae,aa,.slice none 0 0,.slice none 0 0,.slice none 0 0,.slice none 0 0,.slice none 0 0] 86));clear ax;go_enter Tryz.func44,Tryz.ntmps44
 go_wp2_with (first
  |(refine wpList_load_row rfl 69 (.tmp 1) rfl w.heap.size rfl 69 _ (0,0) _ (heap_alloc_new w _) Tryz.underlying69 rfl (by kernel_rfl) ?_)
  |fail)
 go_ret;exact⟨_,rfl,by simp,Z5.at1 _ _ _,HB.out⟩
theorem Y7.setB {α:Type} {E:YW α} {T:TypeId} {w:World} {b:Nat} {xs:List α} {v:Value} (h:Y7 E T w b xs v) {a:Addr} (ha:a.block<b) (u:Value):Y7 E T (w.setCell a u) b xs v:=by
 obtain⟨cs,h1,h2⟩:=h;refine⟨cs,ownsRow_setCell_below h1 ha u,h2.keep (S:=Yj b w v) (fun p hp=>World.cell?_setCell_other _ _ _ _ (by rintro rfl;have:=hp.1;omega)) (fun k hk=>⟨hk.1,by simpa[World.setCell] using hk.2.1,hk.2.2⟩)⟩
theorem TN (B b:Nat) (arr:Array Value) (vo:Value) (ops:List ZB) (op:ZB) (Ar An:Option Addr) (cr cn:Nat) (w:World) (ho:Z5 w B (.cells arr 86)) (aP:arr[20]?=some vo) (ae:Y7 Zb 49 w b ops vo) (aN:B<b) (hb:b<=w.heap.size) (aG:ops.length<=1000)
  (hr:Z0 w (Lt w.heap.size) op.row (.slice Ar op.row.length cr)) (hn:Z8 Z7 w (Lt w.heap.size) op.nodes (.slice An op.nodes.length cn)) (aC:op.row.length<=1000000) (aH:ZT op.nodes<=1000000) (hk:Z4 op.kind) (ha:Z4 op.at_) (af:Z4 op.n) (hs:Z4 op.slot) (aF:op.old.size<=maxLen) (aB:op.text.size<=maxLen) :
  Calls Tryz.prog 45 #[.pointer (some ⟨B,0,none⟩),.agg (Zu op (.slice Ar op.row.length cr) (.slice An op.nodes.length cn))] w fun e w'=>∃ak,e=.returned (.pointer (some ⟨B,0,none⟩))/\Z5 w' B (.cells (arr.setIfInBounds 20 ak) 86)/\Y7 Zb 49 w' b (ops++[op]) ak/\ZZ (fun k=>k=B\/some k=vo.ownBlock) w w'/\∀k,some k=ak.ownBlock->some k=vo.ownBlock\/w.heap.size<=k:=by
 obtain⟨W0,au⟩:∃W0,w.alloc (.cells (Zu op (.slice Ar op.row.length cr) (.slice An op.nodes.length cn)) 49)=W0:=⟨_,rfl⟩;have ay:W0.heap.size=w.heap.size+1:=by rw[<-au];simp
 have ai:Below w.heap.size w W0:=by rw[<-au];exact ZX _ _
 have az:Z5 W0 w.heap.size (.cells (Zu op (.slice Ar op.row.length cr) (.slice An op.nodes.length cn)) 49):=by rw[<-au];exact Z5.at0 _ _
 have ag:=ho.lt;have KB:Hid (∀W,Below W0.heap.size W0 W->Z5 W B (.cells arr 86)/\Z5 W w.heap.size (.cells (Zu op (.slice Ar op.row.length cr) (.slice An op.nodes.length cn)) 49)/\Y7 Zb 49 W b ops vo/\Below w.heap.size w W):=fun W hW=>by
  have h9:=ai.trans (hW.mono ai.size);exact⟨ho.belowB h9 ag,az.belowB hW (by omega),ae.below h9,h9⟩
 have CD:Hid (∀W,Below w.heap.size w W->_):=fun W hW=>zO1 op Ar An cr cn W (hr.below hW hW.size) (hn.below hW hW.size) aC aH
 have bi:Hid (∀W S vr vn,Z0 W S op.row vr->Z8 Z7 W S op.nodes vn->Zb.R W S op [.int .i64 op.kind,vr,.int .i64 op.at_,.int .i64 op.n,vn,.int .i64 op.slot,.string op.old,.string op.text]):=fun W S vr vn h1 h2=>⟨vr,vn,rfl,hk,ha,af,hs,aF,aB,h1,h2⟩
 have aS:Hid (∀k,vo.ownBlock=some k->b<=k/\k<w.heap.size):=ae.own_lt;have aa:Hid ((∀(W:World),Z5 W B (.cells arr 86)->W.cell? ⟨B,20,none⟩=some (vo)/\W.frozen? ⟨B,20,none⟩=false)):=fun W h=>⟨(h.cell 20).trans aP,h.free 20⟩
 obtain⟨o1,o2,o3,_⟩:=KB.out W0 (QQ _ _);obtain⟨aR,aQ⟩:=aa.out W0 o1;have ax:=hid ai;have HZ0:=hid ay;have HBW:=hid ag;have ne1:¬B=w.heap.size:=Nat.ne_of_lt ag;have ne2:¬w.heap.size=B:=fun e=>Nat.ne_of_lt ag e.symm
 have bu:=hid aN;have HB:=hid hb;have HL:=hid aG;obtain⟨kind,row,at_,n,nodes,slot,old,text⟩:=op;simp only[Zu] at *;have m0:=o2.cell 0;have m1:=o2.cell 1;have m2:=o2.cell 2;have m3:=o2.cell 3;have m4:=o2.cell 4;have m5:=o2.cell 5;have m6:=o2.cell 6;have m7:=o2.cell 7;simp only[List.getElem?_toArray,List.getElem?_cons_zero,List.getElem?_cons_succ] at m0 m1 m2 m3 m4 m5 m6 m7;clear ho ae hr hn aC aH hk ha af hs aF aB ai ay az ag aN hb aG o1 o2 o3 aP;go_enter Tryz.func45,Tryz.ntmps45
 go_wp2_with fail
 go_region_law (first
  |(go_simp;go_at_call 85;refine(CD.out _ (XF ax.out)).mono ?_;rintro e w3 ⟨bC,aW,bD,aX,rfl,aD,aK,aM⟩;have aV:=hid (Xt aM);have aZ:=hid (bi.out w3 (fun k=>W0.heap.size<=k/\k<w3.heap.size) _ _ aD aK);obtain⟨o1,o2,o3,aL⟩:=KB.out w3 aV.out;have ah:=hid aL;obtain⟨aR,aQ⟩:=aa.out w3 o1;have aY:∀o,(w3.alloc o).cell? ⟨B,20,none⟩=some vo:=fun o=>(aa.out _ (o1.al o)).1;have aU:=hid o1;have bn:=hid o2;have aT:=hid o3;have m0:=o2.cell 0;have m1:=o2.cell 1;have m2:=o2.cell 2;have m3:=o2.cell 3;have m4:=o2.cell 4;have m5:=o2.cell 5;have m6:=o2.cell 6;have m7:=o2.cell 7;simp only[List.getElem?_toArray,List.getElem?_cons_zero,List.getElem?_cons_succ] at m0 m1 m2 m3 m4 m5 m6 m7;clear aD aK aM aL o1 o2 o3)
  |(refine zMj (by rfl) (.tmp 10) (.tmp 13) (by rfl) b _ ops [⟨kind,row,at_,n,nodes,slot,old,text⟩] (by rfl) (aT.out.below (ZX _ _)) _ _ _ (by rfl) (Rp (E:=Zb) aZ.out (QP HB.out ax.out.size) (fun k hk=>QV (aS.out k hk).2 ax.out.size) aV.out.size _ rfl _) (QP (Nat.add_le_add_right HL.out 1) (by decide)) (QP HB.out (QP ah.out.size (ZX _ _).size)) ?_;intro v4 w4 av aj aO;obtain⟨A4,c4,aA⟩:=av.form;simp only[List.length_append,List.length_cons,List.length_nil,Nat.zero_add] at aA;subst aA;have aJ:=Un aT.out aU.out (by decide);have aI:some w.heap.size≠vo.ownBlock:=fun e=>Nat.lt_irrefl _ (aS.out _ e.symm).2;have q1:=(aU.out.al _).grown aj aJ;have q2:=(bn.out.al _).grown aj aI;obtain⟨aR,aQ⟩:=aa.out w4 q1;have bg:=hid q1;have m0:=q2.cell 0;have m1:=q2.cell 1;have m2:=q2.cell 2;have m3:=q2.cell 3;have m4:=q2.cell 4;have m5:=q2.cell 5;have m6:=q2.cell 6;have m7:=q2.cell 7;simp only[List.getElem?_toArray,List.getElem?_cons_zero,List.getElem?_cons_succ] at m0 m1 m2 m3 m4 m5 m6 m7;have bB:=hid av;have bA:=hid aj;have bz:=hid aO;clear av aj aO aJ aI q1 q2)
  |fail)
 all_goals
  go_wp2_with fail
  go_ret;refine⟨_,rfl,bg.out.set _,bB.out.setB bu.out _,?_,fun k hk=>?_⟩;rotate_left
  ·rcases bz.out with h|h
   ·exact .inl (hk.trans h)
   refine .inr ?_;have h9:=Option.some.inj (hk.trans h);rw[h9];exact QP ah.out.size (ZX _ _).size
  have k1:ZZ (fun _=>False) w w3:=ZZ.of_below ah.out _;have k2:=ZZ.grown bA.out;have k3:=ZZ.set w4 ⟨B,20,none⟩ (.slice A4 (ops.length+1) c4);have k0:ZZ (fun _=>False) w (w3.alloc (.cells #[.int .i64 kind,.slice bC row.length aW,.int .i64 at_,.int .i64 n,.slice bD nodes.length aX,.int .i64 slot,.string old,.string text] 49)):=ZZ.of_below (ah.out.trans ((ZX w3 _).mono ah.out.size)) _;exact((k0.trans k2).trans k3).mono (fun k hk h=>by
   rcases h with (h|h)|h
   ·exact h.elim
   ·exact .inr h
   exact .inl h)
theorem zVn (B:Nat) (arr:Array Value) (p r:List Int) (Ap Ar:Option Addr) (cp cr:Nat) (w:World) (ho:Z5 w B (.cells arr 86)) (hz:arr.size=25) (hp:Z0 w (Lt w.heap.size) p (.slice Ap p.length cp)) (hr:Z0 w (Lt w.heap.size) r (.slice Ar r.length cr)) (hl:p.length+r.length<=100000) :
  Calls Tryz.prog 47 #[.pointer (some ⟨B,0,none⟩),.slice Ap p.length cp,.slice Ar r.length cr] w fun e w'=>∃vp,e=.returned (.pointer (some ⟨B,0,none⟩))/\Z5 w' B (.cells ((arr.setIfInBounds 23 vp).setIfInBounds 24 (.slice none 0 0)) 86)/\Z0 w' (U0 w w') (p++r) vp/\ZZ (fun k=>k=B) w w':=by
 have ai:=ZX w (.cells #[.slice Ap p.length cp,.slice Ar r.length cr] 25);have az:=hid (zGt [p,r] (w.alloc (.cells #[.slice Ap p.length cp,.slice Ar r.length cr] 25)) _ (VU hp hr 25 rfl (fun _ h=>h) w.heap.size rfl) (by simp;omega));have HO:=hid ho;have ak:=hid ai;have aj:=hid ho.lt;have av:(23:Nat)<arr.size:=by omega
 have au:(24:Nat)<arr.size:=by omega
 have HG:=hid (QS (Array.getElem?_eq_getElem av) (Array.getElem?_eq_getElem au));clear ho hp hr hl ai;go_enter Tryz.func47,Tryz.ntmps47
 go_wp2_with fail
 refine az.out.mono ?_;rintro e w1 ⟨v1,rfl,ag,ah⟩;have hi:Z0 w1 (U0 w w1) (p++r) v1:=by
  have h9:Z0 w1 (U0 w w1) [p,r].flatten v1:=ag.ints (fun k h1 h2=>⟨by simp at h1;omega,h2⟩);have e9:[p,r].flatten=p++r:=by simp
  rw[e9] at h9;exact h9
 obtain⟨A1,c1,af⟩:=hi.form;rw[List.length_append] at af;subst af;have ae:=ak.out.trans (ah.mono ak.out.size);have aa:=HO.out.belowB ae aj.out;have d23:w1.cell? ⟨B,23,none⟩=some arr[23]:=(aa.cell 23).trans HG.out.1;have d24:w1.cell? ⟨B,24,none⟩=some arr[24]:=(aa.cell 24).trans HG.out.2;have f23:=aa.free 23;have f24:=aa.free 24;have HI:=hid hi;have ay:=hid aa;have ax:=hid ae;clear ag ah hi aa ae
 go_wp2_with fail
 go_ret;refine⟨_,rfl,(ay.out.set _).set _,HI.out.keep (fun q hq=>?_) (fun k hk=>⟨hk.1,by simpa[World.setCell] using hk.2⟩),?_⟩
 ·have h9:=aj.out;rw[World.cell?_setCell_other _ _ _ _ (by intro e;have:=hq.1;rw[<-e] at this;simp only at this;omega),World.cell?_setCell_other _ _ _ _ (by intro e;have:=hq.1;rw[<-e] at this;simp only at this;omega)]
 exact(((ZZ.of_below ax.out (fun _=>False)).trans (ZZ.set _ _ _)).trans (ZZ.set _ _ _)).mono (fun k hk h=>by
  rcases h with (h|h)|h
  ·exact h.elim
  ·exact h
  exact h)
