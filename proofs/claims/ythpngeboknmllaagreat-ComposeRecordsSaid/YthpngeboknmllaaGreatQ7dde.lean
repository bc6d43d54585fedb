/- T -/
import Derived.Test.YthpngeboknmllaaGreatQ624f
import Derived.Test.YthpngeboknmllaaGreatQ870d
set_option linter.unusedVariables false
set_option linter.unusedSimpArgs false
set_option maxHeartbeats 8000000
set_option maxRecDepth 100000
namespace Go.Proofs.YthpngeboknmllaaGreat
open Go.RowKit
theorem UD (t:Z9) (ops:List ZL) (A Ao:Option Addr) (cap co:Nat) (w:World) (hv:Z8 Z6 w (Lt w.heap.size) t.kids (.slice A t.kids.length cap)) (aQ:Zk t) (df:ZR t<=900000) (ho:Z8 Za w (Lt w.heap.size) ops (.slice Ao ops.length co)) (hol:ops.length<=1000) :
  Calls Tryz.prog 88 #[.agg #[.int .i64 t.kind,.string t.text,.int .i64 t.cols,.slice A t.kids.length cap],.slice Ao ops.length co] w (zIx w (YB t ops)):=by
 have C1:Hid (∀W,Below w.heap.size w W->Calls Tryz.prog 53 #[.agg #[.int .i64 t.kind,.string t.text,.int .i64 t.cols,.slice A t.kids.length cap]] W fun e w'=>e=.returned (.bool (ZU t))/\Below W.heap.size W w'):=fun W hW=>Wh t A cap W (hv.below hW hW.size) aQ.2.2
 have C2:Hid (∀W,Below w.heap.size w W->Calls Tryz.prog 95 #[.agg #[.int .i64 t.kind,.string t.text,.int .i64 t.cols,.slice A t.kids.length cap]] W (zVx W t)):=fun W hW=>zDq t A cap W (hv.below hW hW.size) aQ (by omega)
 have HA:Hid ((ZU t=false->YB t ops=(ZN,1))/\(ZU t=true->YB t ops=YF t ops)):=⟨fun h=>if_pos h,fun h=>if_neg (by simp[h])⟩;have CA:Hid (∀k (hk:k<ops.length),∃g o Ar An cr cn,Ao=some ⟨g,o,none⟩/\(∀W,Below w.heap.size w W->(W.cell? ⟨g,o+k*8,none⟩=some (.int .i64 ops[k].kind)/\W.cell? ⟨g,o+k*8+1,none⟩=some (.slice Ar ops[k].row.length cr)/\W.cell? ⟨g,o+k*8+2,none⟩=some (.int .i64 ops[k].at_) /\
   W.cell? ⟨g,o+k*8+3,none⟩=some (.int .i64 ops[k].n)/\W.cell? ⟨g,o+k*8+4,none⟩=some (.slice An ops[k].nodes.length cn)/\W.cell? ⟨g,o+k*8+5,none⟩=some (.int .i64 ops[k].slot)/\W.cell? ⟨g,o+k*8+6,none⟩=some (.string ops[k].old)/\W.cell? ⟨g,o+k*8+7,none⟩=some (.string ops[k].text)) /\
   ∀(n:Z9) (A':Option Addr) (c':Nat),Zk n->ZU n=true->Z8 Z6 W (Lt W.heap.size) n.kids (.slice A' n.kids.length c')->Calls Tryz.prog 116 #[.agg #[.int .i64 n.kind,.string n.text,.int .i64 n.cols,.slice A' n.kids.length c'],.agg (Zm ops[k] (.slice Ar ops[k].row.length cr) (.slice An ops[k].nodes.length cn))] W (XB W (Zw n ops[k]).1 (Zw n ops[k]).2))):=by
  intro k hk;obtain⟨_,_,rso,hq,_,_,bq,aA⟩:=ho;cases hq;obtain⟨g,o,Ar,An,cr,cn,e,hg,p0,p1,p2,p3,p4,p5,p6,p7,hr,hn,h1,h2,_⟩:=zLf bq aA hk;have ag:g<w.heap.size:=hg;refine⟨g,o,Ar,An,cr,cn,e,fun W hW=>⟨⟨(hW.cell (p:=⟨g,_,none⟩) ag).trans p0,(hW.cell (p:=⟨g,_,none⟩) ag).trans p1,(hW.cell (p:=⟨g,_,none⟩) ag).trans p2,(hW.cell (p:=⟨g,_,none⟩) ag).trans p3,(hW.cell (p:=⟨g,_,none⟩) ag).trans p4,(hW.cell (p:=⟨g,_,none⟩) ag).trans p5,(hW.cell (p:=⟨g,_,none⟩) ag).trans p6,(hW.cell (p:=⟨g,_,none⟩) ag).trans p7⟩,fun n A' c' av az cO=>?_⟩⟩;exact zOy n ops[k] A' Ar An c' cr cn W cO av (by have:=(Yb az).1;omega) (zP4 aA hk) (hr.below hW hW.size) (hn.below hW hW.size)
 generalize YB t ops=aZ at *;generalize dh:ZU t=bV at *;have bY:=hid aQ;have bQ:=hid dh;clear hv aQ df ho;obtain⟨W0,aX⟩:∃W0,(w.alloc (Obj.cells #[.int .i64 t.kind,.string t.text,.int .i64 t.cols,.slice A t.kids.length cap] 24)).alloc (Obj.cells #[.int .i64 0,.string ⟨#[]⟩,.int .i64 0,.slice none 0 0] 24)=W0:=⟨_,rfl⟩;have ak:Hid (W0.heap.size=w.heap.size+1+1):=by show _=_;rw[<-aX];simp
 have KB:Hid (∀W,Below W0.heap.size W0 W->FB W w.heap.size (.int .i64 t.kind) (.string t.text) (.int .i64 t.cols) (.slice A t.kids.length cap)/\FB W (w.heap.size+1) (.int .i64 0) (.string ⟨#[]⟩) (.int .i64 0) (.slice none 0 0)/\Below w.heap.size w W):=by
  intro W hW;have hz:W0.heap.size=w.heap.size+1+1:=ak.out;refine⟨FB.below (B:=W0.heap.size) ?_ hW (by omega),FB.below (B:=W0.heap.size) ?_ hW (by omega),Below.trans ?_ (hW.mono (by omega))⟩
  ·rw[<-aX];exact(FB.new w _ _ _ _ _ rfl).below (ZW _ _) (by simp)
  ·rw[<-aX];exact FB.new _ _ _ _ _ _ (by simp)
  rw[<-aX];exact Zy (ZW _ _) _
 obtain⟨⟨⟨m0,m1,m2,m3⟩,_⟩,⟨⟨c0,c1,c2,c3⟩,f0,f1,f2,f3⟩,aG⟩:=KB.out W0 (Qg _ _);have bH:=hid aG;clear aG;go_enter Tryz.func88,Tryz.ntmps88
 go_wp2_with fail
 refine(C1.out _ bH.out).mono ?_;rintro e w1 ⟨rfl,bA⟩;clear m0 m1 m2 m3 c0 c1 c2 c3 f0 f1 f2 f3;have bg:=hid bA;obtain⟨⟨⟨m0,m1,m2,m3⟩,_⟩,⟨⟨c0,c1,c2,c3⟩,f0,f1,f2,f3⟩,aF⟩:=KB.out w1 bA;have aM:=hid aF;clear bA aF;cases bV
 ·have HC:=hid (Qh c0 (Qh c1 (Qh c2 c3)))
  go_wp2_with fail
  generalize hW:(((w1.setCell _ (.int .i64 0)).setCell _ (.string ⟨#[]⟩)).setCell _ (.int .i64 0)).setCell _ (.slice none 0 0)=W;obtain⟨⟨r0,r1,r2,r3⟩,rz,rb,ro,_⟩:=four HC.out.1 HC.out.2.1 HC.out.2.2.1 HC.out.2.2.2 _ _ _ _ hW.symm;have au:=hid (rb w.heap.size w (by omega) aM.out);clear hW ro rb;refine bodyPost_ret (v:=.tuple #[.agg #[.int .i64 0,.string ⟨#[]⟩,.int .i64 0,.slice none 0 0],.int .i64 0,.int .i64 1]) (by simp[results,Tryz.results88,go_sem,r0,r1,r2,r3]) rfl ?_;rw[HA.out.1 (by trivial)];exact⟨_,_,rfl,Z8.nil_ 0 (Qj _) none,au.out⟩
 have bR:Hid (aZ=YF t ops):=HA.out.2 (by trivial);clear HA
 go_wp2_with fail
 refine(C2.out _ aM.out).mono ?_;rintro e w2 ⟨v2,rfl,bu,aV⟩;obtain⟨A2,aY,rfl⟩:=bu.form;obtain⟨W3,aK⟩:∃W3,w2.alloc (.cells #[.int .i64 t.kind,.string t.text,.int .i64 t.cols,.slice A2 t.kids.length aY] 24)=W3:=⟨_,rfl⟩;have aU:Below w2.heap.size w2 W3:=by rw[<-aK];exact ZW _ _
 have dz:Hid (Below W0.heap.size W0 W3):=bg.out.trans ((aV.trans (aU.mono aV.size)).mono bg.out.size);have bZ:Hid (FB W3 w2.heap.size (.int .i64 t.kind) (.string t.text) (.int .i64 t.cols) (.slice A2 t.kids.length aY)):=by rw[<-aK];exact FB.new _ _ _ _ _ _ rfl
 have cK:Hid (W0.heap.size<=w2.heap.size):=Qf bg.out.size aV.size;have dB:Hid (w2.heap.size<W3.heap.size):=by rw[<-aK];show _<_;simp
 have bW:Hid (Z8 Z6 W3 (fun q=>W0.heap.size<=q/\q≠w2.heap.size/\q<W3.heap.size) t.kids (.slice A2 t.kids.length aY)):=bu.keep (fun q hq=>aU.cell hq.2) (fun k hk=>⟨Qf bg.out.size hk.1,Nat.ne_of_lt hk.2,Qk hk.2 aU.size⟩);clear bu aV aU m0 m1 m2 m3 c0 c1 c2 c3 f0 f1 f2 f3
 go_upto_region 4 with fail
 try rw[aK]
 clear aK
 go_wp2_with fail
 go_loopw [20] (fun i wr=>∃(k:Nat) (n:Z9) (A':Option Addr) (c':Nat),i=.int .i64 k/\k<=ops.length/\FB wr w2.heap.size (.int .i64 n.kind) (.string n.text) (.int .i64 n.cols) (.slice A' n.kids.length c')/\Z8 Z6 wr (fun q=>W0.heap.size<=q/\q≠w2.heap.size/\q<wr.heap.size) n.kids (.slice A' n.kids.length c')/\Zk n/\ZU n=true/\aZ=YF n (ops.drop k)/\Below W0.heap.size W0 wr/\w2.heap.size<wr.heap.size) (fun i _=>ops.length-(intOf i).toNat)
 case atStart=>exact⟨0,t,A2,aY,rfl,Qj _,bZ.out,bW.out,bY.out,bQ.out,bR.out,dz.out,dB.out⟩
 obtain⟨k,n,A',c',rfl,hk,ax,ay,av,az,aa,aH,aR⟩:=hrel;obtain⟨_,bn,ae⟩:=KB.out wr aH;rcases Nat.lt_or_ge k ops.length with bP|cZ
 ·obtain⟨g,o,Ar,An,cr,cn,rfl,bz⟩:=CA.out k bP;obtain⟨⟨p0,p1,p2,p3,p4,p5,p6,p7⟩,_⟩:=bz wr ae;obtain⟨W4,aJ⟩:∃W4,wr.alloc (.cells (Zm ops[k] (.slice Ar ops[k].row.length cr) (.slice An ops[k].nodes.length cn)) 49)=W4:=⟨_,rfl⟩;have aj:Below wr.heap.size wr W4:=by rw[<-aJ];exact ZW _ _
  have aD:=ae.trans (aj.mono ae.size);have bI:=hid aH;have bJ:=hid ((bz W4 aD).2 n A' c' av az (ay.keep (fun q hq=>aj.cell hq.2.2) (fun q hq=>Qk hq.2.2 aj.size)));have af:((Zw n ops[k]).2≠0->aZ=(ZN,(Zw n ops[k]).2))/\((Zw n ops[k]).2=0->aZ=YF (Zw n ops[k]).1 (ops.drop (k+1))/\ZU (Zw n ops[k]).1=true/\Zk (Zw n ops[k]).1):=by
   rw[List.drop_eq_getElem_cons bP,YF] at aa;constructor
   ·intro h;rw[aa,if_pos h]
   intro h;rw[if_neg (by simp[h])] at aa;exact⟨aa,zJy av h⟩
  have ah:=hid af;have i5:decide ((k:Int)<(ops.length:Int))=true:=by rw[decide_eq_true_eq];omega
  have i6:(0:Int)<=(k:Int):=by omega
  have i7:(k:Int)<(ops.length:Int):=by omega
  obtain⟨⟨m0,m1,m2,m3⟩,f0,f1,f2,f3⟩:=ax.below aj aR;obtain⟨n0,n1,n2,n3⟩:=ax.1;have HZ4:=hid (bn.below aj (by have:=ak.out;have:=bI.out.size;omega));have dn:Hid (Ym W4 wr.heap.size ops[k] (.slice Ar ops[k].row.length cr) (.slice An ops[k].nodes.length cn)):=by rw[<-aJ];exact Ym.new _ _ _ _ _
  obtain⟨b0,b1,b2,b3,b4,b5,b6,b7⟩:=dn.out;have aL:=hid aR;have cu:=hid aj;have H4:Hid (wr.heap.size<W4.heap.size):=by rw[<-aJ];show _<_;simp
  have bU:=hid ay;have bC:=hid ax;clear af aa av az ay bz aj aD aH aR bn ax CA C1 C2;generalize ops[k]=op at *;generalize Zw n op=R at *;obtain⟨⟨rk,rx,rc,rs⟩,er⟩:=R;obtain⟨nk,nx,nc,ns⟩:=n;obtain⟨kind,row,at_,n,nodes,slot,old,text⟩:=op;simp only[Zm,Z9.kind,Z9.text,Z9.cols,Z9.kids] at *;clear ae
  go_upto_region 7 with fail
  try rw[aJ]
  clear aJ n0 n1 n2 n3
  go_wp2_with fail
  refine bJ.out.mono ?_;rintro e w5 ⟨v5,rfl,aP,aT⟩;simp only[Z9.kind,Z9.text,Z9.cols,Z9.kids] at aP ⊢;obtain⟨A5,c5,rfl⟩:=aP.form;obtain⟨W6,aW⟩:∃W6,w5.alloc (.cells #[.int .i64 rk,.string rx,.int .i64 rc,.slice A5 rs.length c5] 24)=W6:=⟨_,rfl⟩;have aS:Below w5.heap.size w5 W6:=by rw[<-aW];exact ZW _ _
  have aI:Below W4.heap.size W4 W6:=aT.trans (aS.mono aT.size);have aN:Hid (Below wr.heap.size wr W6):=cu.out.trans (aI.mono cu.out.size);have dm:Hid (Z8 Z6 W6 (fun q=>W4.heap.size<=q/\q<w5.heap.size) rs (.slice A5 rs.length c5)):=aP.keep (fun q hq=>aS.cell hq.2) (fun q hq=>hq);have aO:Hid (Below W0.heap.size W0 W6):=bI.out.trans (aN.out.mono bI.out.size);obtain⟨⟨x0,x1,x2,x3⟩,_⟩:FB W6 w5.heap.size (.int .i64 rk) (.string rx) (.int .i64 rc) (.slice A5 rs.length c5):=by rw[<-aW];exact FB.new _ _ _ _ _ _ rfl
  clear m0 m1 m2 m3 f0 f1 f2 f3 b0 b1 b2 b3 b4 b5 b6 b7 p0 p1 p2 p3 p4 p5 p6 p7;obtain⟨⟨m0,m1,m2,m3⟩,f0,f1,f2,f3⟩:=bC.out.below aN.out aL.out;obtain⟨_,⟨⟨c0,c1,c2,c3⟩,g0,g1,g2,g3⟩,aC⟩:=KB.out W6 aO.out;have bG:=hid aC;have cB:=hid aS.size;have dA:=hid aT.size;clear aP aT aS aI aC
  go_upto_region 8 with fail
  try rw[aW]
  clear aW;by_cases aB:er=0;rotate_left
  ·have i9:(er==0)=false:=by simpa using aB
   have i9':(er != 0)=true:=by simpa using aB
   have HE:=hid (ah.out.1 aB);clear m0 m1 m2 m3 f0 f1 f2 f3 x0 x1 x2 x3;have HC:=hid (Qh c0 (Qh c1 (Qh c2 c3)))
   go_wp2_with fail
   generalize hW:(((W6.setCell _ (.int .i64 0)).setCell _ (.string ⟨#[]⟩)).setCell _ (.int .i64 0)).setCell _ (.slice none 0 0)=W;obtain⟨⟨r0,r1,r2,r3⟩,rz,rb,ro,_⟩:=four HC.out.1 HC.out.2.1 HC.out.2.2.1 HC.out.2.2.2 _ _ _ _ hW.symm;have au:=hid (rb w.heap.size w (by omega) bG.out);clear hW ro rb;refine bodyPost_ret (v:=.tuple #[.agg #[.int .i64 0,.string ⟨#[]⟩,.int .i64 0,.slice none 0 0],.int .i64 (k:Int),.int .i64 er]) (by simp[results,Tryz.results88,go_sem,r0,r1,r2,r3]) rfl ?_;rw[HE.out];exact⟨_,_,rfl,Z8.nil_ 0 (Qj _) none,au.out⟩
  obtain⟨bN,bM,bL⟩:=ah.out.2 aB;have HQ:=hid (Qh bN (Qh bM bL));subst aB;have HM:=hid (Qh m0 (Qh m1 (Qh m2 m3)));have HF:=hid (Qh f0 (Qh f1 (Qh f2 f3)));clear bN bM bL c0 c1 c2 c3 g0 g1 g2 g3
  go_wp2_with fail
  generalize hW:(((W6.setCell _ (.int .i64 rk)).setCell _ (.string rx)).setCell _ (.int .i64 rc)).setCell _ (.slice A5 rs.length c5)=W;obtain⟨bK,rz,rb,ro,rf⟩:=four HM.out.1 HM.out.2.1 HM.out.2.2.1 HM.out.2.2.2 _ _ _ _ hW.symm;have au:=hid (rb W0.heap.size W0 cK.out aO.out);have dx:Hid (FB W w2.heap.size (.int .i64 rk) (.string rx) (.int .i64 rc) (.slice A5 rs.length c5)):=⟨bK,(rf _).trans HF.out.1,(rf _).trans HF.out.2.1,(rf _).trans HF.out.2.2.1,(rf _).trans HF.out.2.2.2⟩;have di:Hid (Z8 Z6 W (fun q=>W0.heap.size<=q/\q≠w2.heap.size/\q<W.heap.size) rs (.slice A5 rs.length c5)):=dm.out.keep (fun q hq=>ro q (by have:=hq.1;have:=H4.out;have:=aL.out;omega)) (fun q hq=>⟨by have:=hq.1;have:=H4.out;have:=aL.out;have:=cK.out;omega,by have:=hq.1;have:=H4.out;have:=aL.out;omega,by rw[rz];exact Qk hq.2 cB.out⟩);have dw:Hid (w2.heap.size<W.heap.size):=by show _<_;rw[rz];have:=H4.out;have:=aL.out;have:=dA.out;have:=cB.out;omega
  clear hW rb ro rf bK rz x0 x1 x2 x3 m0 m1 m2 m3 f0 f1 f2 f3;go_roundw
  case rel=>exact⟨k+1,.mk rk rx rc rs,A5,c5,by go_num,by omega,dx.out,di.out,HQ.out.2.2,HQ.out.2.1,HQ.out.1,au.out,dw.out⟩
  case measure=>simp[intOf];omega
 have he:ops.drop k=[]:=List.drop_eq_nil_of_le cZ;rw[he,YF] at aa;subst aa;have i5:decide ((k:Int)<(ops.length:Int))=false:=by rw[decide_eq_false_iff_not];omega
 obtain⟨m0,m1,m2,m3⟩:=ax.1;obtain⟨⟨c0,c1,c2,c3⟩,f0,f1,f2,f3⟩:=bn;have HC:=hid (Qh c0 (Qh c1 (Qh c2 c3)));have bD:=hid ae;have bU:=hid ay;have HW:=hid aH.size;obtain⟨nk,nx,nc,ns⟩:=n;simp only[Z9.kind,Z9.text,Z9.cols,Z9.kids] at *;clear ax ay av az aH aR ae CA C1 C2 bY bQ bR bW bZ
 go_wp2_with fail
 generalize hW:(((wr.setCell _ (.int .i64 nk)).setCell _ (.string nx)).setCell _ (.int .i64 nc)).setCell _ (.slice A' ns.length c')=W;obtain⟨⟨r0,r1,r2,r3⟩,rz,rb,ro,_⟩:=four HC.out.1 HC.out.2.1 HC.out.2.2.1 HC.out.2.2.2 _ _ _ _ hW.symm;have au:=hid (rb w.heap.size w (by omega) bD.out);have bB:Hid (Z8 Z6 W (Lt W.heap.size) ns (.slice A' ns.length c')):=bU.out.keep (fun q hq=>ro q (by have:=hq.1;have:=ak.out;omega)) (fun q hq=>by unfold Lt;rw[rz];exact hq.2.2);clear hW ro rb;refine bodyPost_ret (v:=.tuple #[.agg #[.int .i64 nk,.string nx,.int .i64 nc,.slice A' ns.length c'],.int .i64 0,.int .i64 0]) (by simp[results,Tryz.results88,go_sem,r0,r1,r2,r3]) rfl ?_;exact⟨_,_,rfl,bB.out,au.out⟩
structure ZY (N:Nat->Prop) (w w':World):Prop where
 os:w'.os=w.os
 tape:w'.tape=w.tape
 output:w'.output=w.output
 size:w.heap.size<=w'.heap.size
 block:∀k,k<w.heap.size->¬N k->w'.heap[k]?=w.heap[k]?
theorem ZY.cell {N:Nat->Prop} {w w':World} (h:ZY N w w') {p:Addr} (hp:p.block<w.heap.size) (hn:¬N p.block):w'.cell? p=w.cell? p:=World.cell?_of_block (h.block _ hp hn)
theorem ZY.below {N:Nat->Prop} {w w':World} (h:ZY N w w') {B:Nat} (hB:B<=w.heap.size) (hn:∀k,N k->B<=k):Below B w w':=⟨h.os,h.tape,h.output,h.size,fun k hk=>h.block k (Qk hk hB) (fun e=>absurd (hn k e) (by omega))⟩
theorem ZY.trans {N N':Nat->Prop} {w w1 w':World} (h:ZY N w w1) (k:ZY N' w1 w'):ZY (fun b=>N b\/N' b) w w':=⟨k.os.trans h.os,k.tape.trans h.tape,k.output.trans h.output,Qf h.size k.size,fun b hb hn=>(k.block b (Qk hb h.size) (fun e=>hn (.inr e))).trans (h.block b hb (fun e=>hn (.inl e)))⟩
theorem ZY.of_below {w w':World} (h:Below w.heap.size w w') (N:Nat->Prop):ZY N w w':=⟨h.os,h.tape,h.output,h.size,fun k hk _=>h.block k hk⟩
theorem ZY.grown {w w':World} {row:Option Nat} (h:w.grownBy w' row):ZY (fun k=>some k=row) w w':=⟨h.os,h.tape,h.output,h.size,fun k hk hn=>h.block k hk (fun e=>hn e)⟩
theorem ZY.set (w:World) (a:Addr) (v:Value):ZY (fun k=>k=a.block) w (w.setCell a v):=⟨rfl,rfl,rfl,by simp[World.setCell],fun k _ hn=>Below.heap_setCell w a v k hn⟩
theorem ZY.mono {N N':Nat->Prop} {w w':World} (h:ZY N w w') (hn:∀k,k<w.heap.size->N k->N' k):ZY N' w w':=⟨h.os,h.tape,h.output,h.size,fun k hk aa=>h.block k hk (fun e=>aa (hn k hk e))⟩
theorem ZY.obj {N:Nat->Prop} {w w':World} {g:Nat} {o:Obj} (h:ZY N w w') (ho:Z5 w g o) (hn:¬N g):Z5 w' g o:=(h.block g ho.lt hn).trans ho
theorem U7:Ue 49 (.agg #[.int .i64 0,.slice none 0 0,.int .i64 0,.int .i64 0,.slice none 0 0,.int .i64 0,.string ⟨#[]⟩,.string ⟨#[]⟩]) 8 112:=by
 have h:(Tryz.prog.info? 49).map (fun i=>(i.zero,i.size,i.bytes))=some (some (.agg #[.int .i64 0,.slice none 0 0,.int .i64 0,.int .i64 0,.slice none 0 0,.int .i64 0,.string ⟨#[]⟩,.string ⟨#[]⟩]),8,112):=by kernel_rfl
 obtain⟨i,h1,h2,h3,h4⟩:=info_parts h;exact⟨i,h1,h2,h3,h4⟩
theorem zMj {w:World} {ops:Array Oper} {o:Oper} {a:Act} {K:Act->World->Prop} {Q:Exit->Act->World->Prop} {E:Prop} (ay:o.guard=none) (s x:Operand)
  (ho:o.op=.call { callee:=.builtin .append,args:=#[s,x],argTypes:=#[33,33] })
  (b:Nat) (v:Value) (xss yss:List ZL) (hs:a.eval s=v) (aa:Y2 Za 49 w b xss v) (A:Option Addr) (m c:Nat) (hx:a.eval x=.slice A m c) (hr:Z8 Za w (Yf b w v) yss (.slice A m c))
  (af:xss.length+yss.length<=1000000) (hb:b<=w.heap.size)
  (h:∀v' w',Y2 Za 49 w' b (xss++yss) v'->w.grownBy w' v.ownBlock->(v'.ownBlock=v.ownBlock\/v'.ownBlock=some w.heap.size)->K (a.put o.dst v') w') :
  if Region.wanted o (yielded ops a.tmps)=true then Oper.wp Tryz.prog o a w K Q else E:=by
 obtain⟨i0,ax,ak,aj,ah⟩:=U7;obtain⟨A',cap',rs,e,h1,h2,au,ae⟩:=hr;injection e with e1 e2 e3
 subst e1 e2 e3;obtain⟨cs,ag,av⟩:=aa;have hl:=ae.len;refine zC6 w ay s x 33 ho b 49 i0 _ 8 112 Tryz.underlying33 ax ak aj ah rfl (by omega) v _ _ hs ag _ A _ c rs hx hl au ae.one (by simp only[maxLen];omega) (by omega) hb ?_;intro v' w' h3 h4 h5;exact h v' w' (zOr ag av ae h3 h4 h5) h4 h5
theorem Tj {α:Type} {E:YA α} {X:World} {g b:Nat} {T T':TypeId} {xs:List α} {v:Value} {arr:Array Value} (h:Y2 E T X b xs v) (ho:Z5 X g (.cells arr T')) (hT:T'≠T):some g≠v.ownBlock:=by
 intro e;obtain⟨cs,h1,_⟩:=h;rcases h1.2 with ⟨rfl,_⟩|⟨g',cap,cur,rfl,_,hh,_⟩
 ·simp[Value.ownBlock] at e
 simp[Value.ownBlock] at e;subst e;unfold Z5 at ho;rw[ho] at hh;injection hh with hh
 injection hh with _ h2 _
 exact hT h2
theorem zQr (x0 x1 x2 x3 x4 x5 x6 x7 x8 x9 ax av au ak aj ah ag af ae aa:Value) (w:World):Calls Tryz.prog 44 #[.agg #[x0,x1,x2,x3,x4,x5,x6,x7,x8,x9,ax,av,au,ak,aj,ah,ag,af,ae,aa]] w fun e w'=>∃B,e=.returned (.pointer (some ⟨B,0,none⟩))/\w.heap.size<=B/\Z5 w' B (.cells #[x0,x1,x2,x3,x4,x5,x6,x7,x8,x9,ax,av,au,ak,aj,ah,ag,af,ae,aa,.slice none 0 0,.slice none 0 0,.slice none 0 0,.slice none 0 0,.slice none 0 0] 86)/\Below w.heap.size w w':=by
 have ay:=ZW w (.cells #[x0,x1,x2,x3,x4,x5,x6,x7,x8,x9,ax,av,au,ak,aj,ah,ag,af,ae,aa] 69);have HB:=hid (ay.alloc (ay.size) (.cells #[x0,x1,x2,x3,x4,x5,x6,x7,x8,x9,ax,av,au,ak,aj,ah,ag,af,ae,aa,.slice none 0 0,.slice none 0 0,.slice none 0 0,.slice none 0 0,.slice none 0 0] 86));clear ay;go_enter Tryz.func44,Tryz.ntmps44
 go_wp2_with (first
  |(refine wpList_load_row rfl 69 (.tmp 1) rfl w.heap.size rfl 69 _ (0,0) _ (heap_alloc_new w _) Tryz.underlying69 rfl (by kernel_rfl) ?_)
  |fail)
 go_ret;exact⟨_,rfl,by simp,Z5.at1 _ _ _,HB.out⟩
theorem Y2.setB {α:Type} {E:YA α} {T:TypeId} {w:World} {b:Nat} {xs:List α} {v:Value} (h:Y2 E T w b xs v) {a:Addr} (ha:a.block<b) (u:Value):Y2 E T (w.setCell a u) b xs v:=by
 obtain⟨cs,h1,h2⟩:=h;refine⟨cs,ownsRow_setCell_below h1 ha u,h2.keep (S:=Yf b w v) (fun p hp=>World.cell?_setCell_other _ _ _ _ (by rintro rfl;have:=hp.1;omega)) (fun k hk=>⟨hk.1,by simpa[World.setCell] using hk.2.1,hk.2.2⟩)⟩
theorem Sk (B b:Nat) (arr:Array Value) (vo:Value) (ops:List ZL) (op:ZL) (Ar An:Option Addr) (cr cn:Nat) (w:World) (ho:Z5 w B (.cells arr 86)) (aQ:arr[20]?=some vo) (ae:Y2 Za 49 w b ops vo) (aO:B<b) (hb:b<=w.heap.size) (aH:ops.length<=1000)
  (hr:Z0 w (Lt w.heap.size) op.row (.slice Ar op.row.length cr)) (hn:Z8 Z6 w (Lt w.heap.size) op.nodes (.slice An op.nodes.length cn)) (aD:op.row.length<=1000000) (aI:ZQ op.nodes<=1000000) (hk:Z4 op.kind) (ha:Z4 op.at_) (af:Z4 op.n) (hs:Z4 op.slot) (aG:op.old.size<=maxLen) (aC:op.text.size<=maxLen) :
  Calls Tryz.prog 45 #[.pointer (some ⟨B,0,none⟩),.agg (Zm op (.slice Ar op.row.length cr) (.slice An op.nodes.length cn))] w fun e w'=>∃au,e=.returned (.pointer (some ⟨B,0,none⟩))/\Z5 w' B (.cells (arr.setIfInBounds 20 au) 86)/\Y2 Za 49 w' b (ops++[op]) au/\ZY (fun k=>k=B\/some k=vo.ownBlock) w w'/\∀k,some k=au.ownBlock->some k=vo.ownBlock\/w.heap.size<=k:=by
 obtain⟨W0,av⟩:∃W0,w.alloc (.cells (Zm op (.slice Ar op.row.length cr) (.slice An op.nodes.length cn)) 49)=W0:=⟨_,rfl⟩;have az:W0.heap.size=w.heap.size+1:=by rw[<-av];simp
 have aj:Below w.heap.size w W0:=by rw[<-av];exact ZW _ _
 have aA:Z5 W0 w.heap.size (.cells (Zm op (.slice Ar op.row.length cr) (.slice An op.nodes.length cn)) 49):=by rw[<-av];exact Z5.at0 _ _
 have ag:=ho.lt;have KB:Hid (∀W,Below W0.heap.size W0 W->Z5 W B (.cells arr 86)/\Z5 W w.heap.size (.cells (Zm op (.slice Ar op.row.length cr) (.slice An op.nodes.length cn)) 49)/\Y2 Za 49 W b ops vo/\Below w.heap.size w W):=fun W hW=>by
  have h9:=aj.trans (hW.mono aj.size);exact⟨ho.belowB h9 ag,aA.belowB hW (by omega),ae.below h9,h9⟩
 have CD:Hid (∀W,Below w.heap.size w W->_):=fun W hW=>zO1 op Ar An cr cn W (hr.below hW hW.size) (hn.below hW hW.size) aD aI
 have bq:Hid (∀W S vr vn,Z0 W S op.row vr->Z8 Z6 W S op.nodes vn->Za.R W S op [.int .i64 op.kind,vr,.int .i64 op.at_,.int .i64 op.n,vn,.int .i64 op.slot,.string op.old,.string op.text]):=fun W S vr vn h1 h2=>⟨vr,vn,rfl,hk,ha,af,hs,aG,aC,h1,h2⟩
 have aT:Hid (∀k,vo.ownBlock=some k->b<=k/\k<w.heap.size):=ae.own_lt;have aa:Hid ((∀(W:World),Z5 W B (.cells arr 86)->W.cell? ⟨B,20,none⟩=some (vo)/\W.frozen? ⟨B,20,none⟩=false)):=fun W h=>⟨(h.cell 20).trans aQ,h.free 20⟩
 obtain⟨o1,o2,o3,_⟩:=KB.out W0 (Qg _ _);obtain⟨aS,aR⟩:=aa.out W0 o1;have ay:=hid aj;have HZ0:=hid az;have HBW:=hid ag;have ne1:¬B=w.heap.size:=Nat.ne_of_lt ag;have ne2:¬w.heap.size=B:=fun e=>Nat.ne_of_lt ag e.symm
 have bz:=hid aO;have HB:=hid hb;have HL:=hid aH;obtain⟨kind,row,at_,n,nodes,slot,old,text⟩:=op;simp only[Zm] at *;have m0:=o2.cell 0;have m1:=o2.cell 1;have m2:=o2.cell 2;have m3:=o2.cell 3;have m4:=o2.cell 4;have m5:=o2.cell 5;have m6:=o2.cell 6;have m7:=o2.cell 7;simp only[List.getElem?_toArray,List.getElem?_cons_zero,List.getElem?_cons_succ] at m0 m1 m2 m3 m4 m5 m6 m7;clear ho ae hr hn aD aI hk ha af hs aG aC aj az aA ag aO hb aH o1 o2 o3 aQ;go_enter Tryz.func45,Tryz.ntmps45
 go_wp2_with fail
 go_region_law (first
  |(go_simp;go_at_call 85;refine(CD.out _ (Xj ay.out)).mono ?_;rintro e w3 ⟨bD,aX,bG,aY,rfl,aF,aL,aN⟩;have aW:=hid (Xo aN);have bg:=hid (bq.out w3 (fun k=>W0.heap.size<=k/\k<w3.heap.size) _ _ aF aL);obtain⟨o1,o2,o3,aM⟩:=KB.out w3 aW.out;have ah:=hid aM;obtain⟨aS,aR⟩:=aa.out w3 o1;have aZ:∀o,(w3.alloc o).cell? ⟨B,20,none⟩=some vo:=fun o=>(aa.out _ (o1.al o)).1;have aV:=hid o1;have bu:=hid o2;have aU:=hid o3;have m0:=o2.cell 0;have m1:=o2.cell 1;have m2:=o2.cell 2;have m3:=o2.cell 3;have m4:=o2.cell 4;have m5:=o2.cell 5;have m6:=o2.cell 6;have m7:=o2.cell 7;simp only[List.getElem?_toArray,List.getElem?_cons_zero,List.getElem?_cons_succ] at m0 m1 m2 m3 m4 m5 m6 m7;clear aF aL aN aM o1 o2 o3)
  |(refine zMj (by rfl) (.tmp 10) (.tmp 13) (by rfl) b _ ops [⟨kind,row,at_,n,nodes,slot,old,text⟩] (by rfl) (aU.out.below (ZW _ _)) _ _ _ (by rfl) (one_E (E:=Za) bg.out (Qf HB.out ay.out.size) (fun k hk=>Qk (aT.out k hk).2 ay.out.size) aW.out.size _ rfl _) (Qf (Nat.add_le_add_right HL.out 1) (by decide)) (Qf HB.out (Qf ah.out.size (ZW _ _).size)) ?_;intro v4 w4 ax ak aP;obtain⟨A4,c4,aB⟩:=ax.form;simp only[List.length_append,List.length_cons,List.length_nil,Nat.zero_add] at aB;subst aB;have aK:=Tj aU.out aV.out (by decide);have aJ:some w.heap.size≠vo.ownBlock:=fun e=>Nat.lt_irrefl _ (aT.out _ e.symm).2;have q1:=(aV.out.al _).grown ak aK;have q2:=(bu.out.al _).grown ak aJ;obtain⟨aS,aR⟩:=aa.out w4 q1;have bn:=hid q1;have m0:=q2.cell 0;have m1:=q2.cell 1;have m2:=q2.cell 2;have m3:=q2.cell 3;have m4:=q2.cell 4;have m5:=q2.cell 5;have m6:=q2.cell 6;have m7:=q2.cell 7;simp only[List.getElem?_toArray,List.getElem?_cons_zero,List.getElem?_cons_succ] at m0 m1 m2 m3 m4 m5 m6 m7;have bC:=hid ax;have bB:=hid ak;have bA:=hid aP;clear ax ak aP aK aJ q1 q2)
  |fail)
 all_goals
  go_wp2_with fail
  go_ret;refine⟨_,rfl,bn.out.set _,bC.out.setB bz.out _,?_,fun k hk=>?_⟩;rotate_left
  ·rcases bA.out with h|h
   ·exact .inl (hk.trans h)
   refine .inr ?_;have h9:=Option.some.inj (hk.trans h);rw[h9];exact Qf ah.out.size (ZW _ _).size
  have k1:ZY (fun _=>False) w w3:=ZY.of_below ah.out _;have k2:=ZY.grown bB.out;have k3:=ZY.set w4 ⟨B,20,none⟩ (.slice A4 (ops.length+1) c4);have k0:ZY (fun _=>False) w (w3.alloc (.cells #[.int .i64 kind,.slice bD row.length aX,.int .i64 at_,.int .i64 n,.slice bG nodes.length aY,.int .i64 slot,.string old,.string text] 49)):=ZY.of_below (ah.out.trans ((ZW w3 _).mono ah.out.size)) _;exact((k0.trans k2).trans k3).mono (fun k hk h=>by
   rcases h with (h|h)|h
   ·exact h.elim
   ·exact .inr h
   exact .inl h)
theorem zVn (B:Nat) (arr:Array Value) (p r:List Int) (Ap Ar:Option Addr) (cp cr:Nat) (w:World) (ho:Z5 w B (.cells arr 86)) (hz:arr.size=25) (hp:Z0 w (Lt w.heap.size) p (.slice Ap p.length cp)) (hr:Z0 w (Lt w.heap.size) r (.slice Ar r.length cr)) (hl:p.length+r.length<=100000) :
  Calls Tryz.prog 47 #[.pointer (some ⟨B,0,none⟩),.slice Ap p.length cp,.slice Ar r.length cr] w fun e w'=>∃vp,e=.returned (.pointer (some ⟨B,0,none⟩))/\Z5 w' B (.cells ((arr.setIfInBounds 23 vp).setIfInBounds 24 (.slice none 0 0)) 86)/\Z0 w' (Ug w w') (p++r) vp/\ZY (fun k=>k=B) w w':=by
 have aj:=ZW w (.cells #[.slice Ap p.length cp,.slice Ar r.length cr] 25);have aA:=hid (Qq [p,r] (w.alloc (.cells #[.slice Ap p.length cp,.slice Ar r.length cr] 25)) _ (Vk hp hr 25 rfl (fun _ h=>h) w.heap.size rfl) (by simp;omega));have HO:=hid ho;have au:=hid aj;have ak:=hid ho.lt;have ax:(23:Nat)<arr.size:=by omega
 have av:(24:Nat)<arr.size:=by omega
 have HG:=hid (Qh (Array.getElem?_eq_getElem ax) (Array.getElem?_eq_getElem av));clear ho hp hr hl aj;go_enter Tryz.func47,Tryz.ntmps47
 go_wp2_with fail
 refine aA.out.mono ?_;rintro e w1 ⟨v1,rfl,ag,ah⟩;have hi:Z0 w1 (Ug w w1) (p++r) v1:=by
  have h9:Z0 w1 (Ug w w1) [p,r].flatten v1:=ag.ints (fun k h1 h2=>⟨by simp at h1;omega,h2⟩);have e9:[p,r].flatten=p++r:=by simp
  rw[e9] at h9;exact h9
 obtain⟨A1,c1,af⟩:=hi.form;rw[List.length_append] at af;subst af;have ae:=au.out.trans (ah.mono au.out.size);have aa:=HO.out.belowB ae ak.out;have d23:w1.cell? ⟨B,23,none⟩=some arr[23]:=(aa.cell 23).trans HG.out.1;have d24:w1.cell? ⟨B,24,none⟩=some arr[24]:=(aa.cell 24).trans HG.out.2;have f23:=aa.free 23;have f24:=aa.free 24;have HI:=hid hi;have az:=hid aa;have ay:=hid ae;clear ag ah hi aa ae
 go_wp2_with fail
 go_ret;refine⟨_,rfl,(az.out.set _).set _,HI.out.keep (fun q hq=>?_) (fun k hk=>⟨hk.1,by simpa[World.setCell] using hk.2⟩),?_⟩
 ·have h9:=ak.out;rw[World.cell?_setCell_other _ _ _ _ (by intro e;have:=hq.1;rw[<-e] at this;simp only at this;omega),World.cell?_setCell_other _ _ _ _ (by intro e;have:=hq.1;rw[<-e] at this;simp only at this;omega)]
 exact(((ZY.of_below ay.out (fun _=>False)).trans (ZY.set _ _ _)).trans (ZY.set _ _ _)).mono (fun k hk h=>by
  rcases h with (h|h)|h
  ·exact h.elim
  ·exact h
  exact h)
theorem ZY.setRow (w:World) (g:Nat) (cs:Array Value):ZY (fun k=>k=g) w (w.setRow g cs):=⟨rfl,rfl,rfl,by rw[size_setRow];exact Qi _,fun k _ hn=>setRow_other _ _ _ _ hn⟩
def RecP (B:Nat) (N:Nat->Prop) (w:World) (r:Ze×Int) (e:Ending) (w':World):Prop :=
 ∃vo vbp vbm vap vam,e=.returned (.tuple #[.agg #[vo,vbp,vbm,vap,vam],.int .i64 r.2])/\Z8 Za w' (fun k=>B<k/\k<w'.heap.size) r.1.ops vo/\Z0 w' (fun k=>B<k/\k<w'.heap.size) r.1.bp vbp/\Z0 w' (fun k=>B<k/\k<w'.heap.size) r.1.bm vbm/\Z0 w' (fun k=>B<k/\k<w'.heap.size) r.1.ap vap/\Z0 w' (fun k=>B<k/\k<w'.heap.size) r.1.am vam/\ZY N w w'
theorem zOo (w:World) (S:Nat->Prop):Z8 Za w S ZB.ops (.slice none 0 0)/\Z0 w S ZB.bp (.slice none 0 0):=⟨Z8.nil_ 0 (Qj _) none,Z8.nil_ 0 (Qj _) none⟩
def YE (t:Z9) (p m:List Int) (ops:List ZL) (ap am:List Int):Ze×Int:=if (YB t ops).2=0 then (⟨ops,p,m,ap,am⟩,0) else (ZB,6)
theorem UB (B:Nat) (arr:Array Value) (t:Z9) (p m ap am:List Int) (ops:List ZL) (A Ap Am Ao:Option Addr) (cap cp cm co:Nat) (vap vam:Value) (w:World) (ho:Z5 w B (.cells arr 86)) (hz:arr.size=25)
  (h0:arr[0]?=some (.int .i64 t.kind)) (h1:arr[1]?=some (.string t.text)) (h2:arr[2]?=some (.int .i64 t.cols)) (h3:arr[3]?=some (.slice A t.kids.length cap)) (h4:arr[4]?=some (.slice Ap p.length cp)) (h5:arr[5]?=some (.slice Am m.length cm)) (bL:arr[20]?=some (.slice Ao ops.length co)) (bK:arr[23]?=some vap) (bJ:arr[24]?=some vam)
  (hv:Z8 Z6 w (Lt w.heap.size) t.kids (.slice A t.kids.length cap)) (bB:Zk t) (bI:ZR t<=900000) (hp:Z0 w (Lt w.heap.size) p (.slice Ap p.length cp)) (hm:Z0 w (Lt w.heap.size) m (.slice Am m.length cm)) (bu:p.length<=1000000) (bD:m.length<=1000000)
  (az:Z8 Za w (fun k=>B<k/\k<w.heap.size) ops (.slice Ao ops.length co)) (bA:ops.length<=1000) (aP:Z0 w (fun k=>B<k/\k<w.heap.size) ap vap) (aQ:Z0 w (fun k=>B<k/\k<w.heap.size) am vam) :
  Calls Tryz.prog 48 #[.pointer (some ⟨B,0,none⟩)] w (RecP B (fun k=>k=B) w (YE t p m ops ap am)):=by
 have aJ:=ho.lt;obtain⟨W0,aS⟩:∃W0,w.alloc (.cells #[.slice none 0 0,.slice none 0 0,.slice none 0 0,.slice none 0 0,.slice none 0 0] 35)=W0:=⟨_,rfl⟩;have bn:W0.heap.size=w.heap.size+1:=by rw[<-aS];simp
 have aL:Below w.heap.size w W0:=by rw[<-aS];exact ZW _ _
 have bq:Z5 W0 w.heap.size (.cells #[.slice none 0 0,.slice none 0 0,.slice none 0 0,.slice none 0 0,.slice none 0 0] 35):=by rw[<-aS];exact Z5.at0 _ _
 have KB:Hid (∀W,Below W0.heap.size W0 W->Z5 W B (.cells arr 86)/\Z5 W w.heap.size (.cells #[.slice none 0 0,.slice none 0 0,.slice none 0 0,.slice none 0 0,.slice none 0 0] 35)/\Below w.heap.size w W):=fun W hW=>by
  have h9:=aL.trans (hW.mono aL.size);exact⟨ho.belowB h9 aJ,bq.belowB hW (by omega),h9⟩
 have CA:Hid (∀W,Below w.heap.size w W->Calls Tryz.prog 88 #[.agg #[.int .i64 t.kind,.string t.text,.int .i64 t.cols,.slice A t.kids.length cap],.slice Ao ops.length co] W (zIx W (YB t ops))):=fun W hW=>UD t ops A Ao cap co W (hv.below hW hW.size) bB bI (az.keep (fun q hq=>hW.cell hq.2) (fun k hk=>Qk hk.2 hW.size)) bA
 have CC:Hid (∀W,Below w.heap.size w W->Calls Tryz.prog 58 #[.agg #[.slice Ap p.length cp,.slice Am m.length cm]] W _):=fun W hW=>zNb p m Ap Am cp cm W (hp.below hW hW.size) (hm.below hW hW.size) bu bD
 have HC:Hid (∀(W:World),Z5 W B (.cells arr 86)->W.cell? ⟨B,0,none⟩=some (.int .i64 t.kind)/\W.cell? ⟨B,1,none⟩=some (.string t.text)/\W.cell? ⟨B,2,none⟩=some (.int .i64 t.cols)/\W.cell? ⟨B,3,none⟩=some (.slice A t.kids.length cap)/\W.cell? ⟨B,4,none⟩=some (.slice Ap p.length cp)/\W.cell? ⟨B,5,none⟩=some (.slice Am m.length cm)/\W.cell? ⟨B,20,none⟩=some (.slice Ao ops.length co)/\W.cell? ⟨B,23,none⟩=some vap/\W.cell? ⟨B,24,none⟩=some vam):=fun W h =>
  ⟨(h.cell 0).trans h0,(h.cell 1).trans h1,(h.cell 2).trans h2,(h.cell 3).trans h3,(h.cell 4).trans h4,(h.cell 5).trans h5,(h.cell 20).trans bL,(h.cell 23).trans bK,(h.cell 24).trans bJ⟩
 have aU:arr[21]?=some arr[21]:=Array.getElem?_eq_getElem (by omega);have aT:arr[22]?=some arr[22]:=Array.getElem?_eq_getElem (by omega);generalize arr[21]=bW at aU;generalize arr[22]=bU at aT;obtain⟨o1,o2,aN⟩:=KB.out W0 (Qg _ _);obtain⟨b0,b1,b2,b3,b4,b5,ax,av,au⟩:=HC.out W0 o1;obtain⟨Aap,cap',rfl⟩:=aP.form;obtain⟨Aam,cam,rfl⟩:=aQ.form;have bR:=hid aL;have aV:=hid bn;have dh:=hid aJ;have aW:=hid az;have di:=hid aP;have dm:=hid aQ;have ne1:¬B=w.heap.size:=Nat.ne_of_lt aJ;have aZ:¬w.heap.size=B:=fun e=>Nat.ne_of_lt aJ e.symm
 have ne3:¬B=W0.heap.size:=by have:=aV.out;omega
 have ne4:¬W0.heap.size=B:=by have:=aV.out;omega
 have dw:=hid aU;have dn:=hid aT;have HR:Hid (YE t p m ops ap am=if (YB t ops).2=0 then (⟨ops,p,m,ap,am⟩,0) else (ZB,6)):=rfl;generalize YE t p m ops ap am=bP at *;generalize YB t ops=R at *;obtain⟨⟨rk,rt,rc,rks⟩,re⟩:=R;simp only[Z9.kind,Z9.text,Z9.cols,Z9.kids] at HR CA;clear ho hz h0 h1 h2 h3 h4 h5 bL bK bJ hv bB bI hp hm bu bD az bA aP aQ aL bn bq aJ o1 o2 aN aU aT;go_enter Tryz.func48,Tryz.ntmps48
 go_wp2_with fail
 go_region_held3 (fun w'=>w'.cell? ⟨B,0,none⟩=some (.int .i64 t.kind)/\w'.cell? ⟨B,1,none⟩=some (.string t.text)/\w'.cell? ⟨B,2,none⟩=some (.int .i64 t.cols)/\w'.cell? ⟨B,3,none⟩=some (.slice A t.kids.length cap)/\w'.cell? ⟨B,20,none⟩=some (.slice Ao ops.length co)) (go_keep) (first
  |(go_at_call 88;refine(CA.out _ (Xj bR.out)).mono ?_;rintro e w3 ⟨v3,i3,rfl,ay,aC⟩;simp only[Z9.kind,Z9.text,Z9.cols,Z9.kids] at ay ⊢;obtain⟨A3,c3,rfl⟩:=ay.form;have aF:=hid (Xo aC);obtain⟨o1,o2,aj⟩:=KB.out w3 aF.out;have cK:=hid aj;obtain⟨b0,b1,b2,b3,b4,b5,ax,av,au⟩:=HC.out w3 o1;clear ay aC aj o1 o2)
  |(go_at_call 88;refine(CA.out _ (Zy (Xj bR.out) _)).mono ?_;rintro e w3 ⟨v3,i3,rfl,ay,aC⟩;simp only[Z9.kind,Z9.text,Z9.cols,Z9.kids] at ay ⊢;obtain⟨A3,c3,rfl⟩:=ay.form;have aF:=hid (Zo (Zy (Xj (Qg _ W0)) _) aC);obtain⟨o1,o2,aj⟩:=KB.out w3 aF.out;have cK:=hid aj;obtain⟨b0,b1,b2,b3,b4,b5,ax,av,au⟩:=HC.out w3 o1;obtain⟨⟨q0,q1,q2,q3⟩,⟨f0,f1,f2,f3⟩⟩:=FB.below (b:=W0.heap.size) (FB.new W0.drew (.int .i64 0) (.string ⟨#[]⟩) (.int .i64 0) (.slice none 0 0) 24 rfl) aC (Nat.lt_of_lt_of_eq (Nat.lt_succ_self _) (World.size_alloc W0.drew _).symm);clear ay aC aj o1 o2)
  |fail)
 all_goals
  first
   |(generalize hX:w3.alloc _=X;have aK:Hid (Below W0.heap.size W0 X):=by (rw[<-hX];exact aF.out.alloc aF.out.size _))
   |(generalize hX:World.setCell _ _ _=X;have aK:Hid (Below W0.heap.size W0 X):=by (rw[<-hX];exact(((aF.out.setCell (p:=⟨W0.heap.size,0,none⟩) (Qi _) _).setCell (p:=⟨W0.heap.size,1,none⟩) (Qi _) _).setCell (p:=⟨W0.heap.size,2,none⟩) (Qi _) _).setCell (p:=⟨W0.heap.size,3,none⟩) (Qi _) _))
  clear hX b0 b1 b2 b3 b4 b5 ax av au
  try clear q0 q1 q2 q3 f0 f1 f2 f3
  obtain⟨o1,o2,aj⟩:=KB.out X aK.out;obtain⟨b0,b1,b2,b3,b4,b5,ax,av,au⟩:=HC.out X o1;have bQ:=hid aj;have aD:=hid o2;clear o1 o2 aj;by_cases aB:re=0;rotate_left
  ·have i9:(re==0)=false:=by simpa using aB
   have i9':(re != 0)=true:=by simpa using aB
   have aA:Hid (bP=(ZB,6)):=HR.out.trans (if_neg aB);clear aB
   go_wp2_with (first
    |(refine wpList_store_row rfl 35 (.tmp 2) (.tmp 24) rfl w.heap.size _ rfl rfl 35 _ aD.out (by kernel_rfl) (by simp) (by simp[Value.oneCell']) ?_)
    |fail)
   have aa:=aD.out.row #[.slice none 0 0,.slice none 0 0,.slice none 0 0,.slice none 0 0,.slice none 0 0];have r0:=aa.cell 0;have r1:=aa.cell 1;have r2:=aa.cell 2;have r3:=aa.cell 3;have r4:=aa.cell 4;simp only[List.getElem?_toArray,List.getElem?_cons_zero,List.getElem?_cons_succ] at r0 r1 r2 r3 r4;refine bodyPost_ret (v:=.tuple #[.agg #[.slice none 0 0,.slice none 0 0,.slice none 0 0,.slice none 0 0,.slice none 0 0],.int .i64 6]) (by simp[results,Tryz.results48,go_sem,r0,r1,r2,r3,r4]) rfl ?_;rw[aA.out];have aG:=zOo (X.setRow w.heap.size #[.slice none 0 0,.slice none 0 0,.slice none 0 0,.slice none 0 0,.slice none 0 0]) (fun k=>B<k/\k<(X.setRow w.heap.size #[.slice none 0 0,.slice none 0 0,.slice none 0 0,.slice none 0 0,.slice none 0 0]).heap.size);exact⟨_,_,_,_,_,rfl,aG.1,aG.2,aG.2,aG.2,aG.2,ZY.of_below (Y6 bQ.out (Qi _) _) _⟩
  have aA:Hid (bP=(⟨ops,p,m,ap,am⟩,0)):=HR.out.trans (if_pos aB);subst aB;clear aD
  go_wp2_with fail
  refine(CC.out _ bQ.out).mono ?_;rintro e w5 ⟨ag,ae,ah,af,rfl,bz,bG,aO⟩;have aY:=hid (aK.out.trans (aO.mono aK.out.size));have cO:=hid bz;have cZ:=hid bG;have cB:=hid aO.size;clear b0 b1 b2 b3 b4 b5 ax av au bz bG aO;obtain⟨o1,o2,aj⟩:=KB.out w5 aY.out;obtain⟨b0,b1,b2,b3,b4,b5,ax,av,au⟩:=HC.out w5 o1;have bN:w5.cell? ⟨B,21,none⟩=some bW:=(o1.cell 21).trans dw.out;have bM:w5.cell? ⟨B,22,none⟩=some bU:=(o1.cell 22).trans dn.out;have bZ:=o1.free 21;have bY:=o1.free 22;have aM:=hid aj;have hd:∀(i j:Nat),i≠j->(⟨B,i,none⟩:Addr)≠⟨B,j,none⟩:=fun i j h e=>h (by injection e)
  have e20:((w5.setCell ⟨B,21,none⟩ (.slice ag p.length ae)).setCell ⟨B,22,none⟩ (.slice ah m.length af)).cell? ⟨B,20,none⟩=some (.slice Ao ops.length co):=(World.cell?_setCell_other _ _ _ _ (hd 22 20 (by decide))).trans ((World.cell?_setCell_other _ _ _ _ (hd 21 20 (by decide))).trans ax);have e21:((w5.setCell ⟨B,21,none⟩ (.slice ag p.length ae)).setCell ⟨B,22,none⟩ (.slice ah m.length af)).cell? ⟨B,21,none⟩=some (.slice ag p.length ae):=(World.cell?_setCell_other _ _ _ _ (hd 22 21 (by decide))).trans (World.cell?_setCell_same _ _ _ bN);have e22:((w5.setCell ⟨B,21,none⟩ (.slice ag p.length ae)).setCell ⟨B,22,none⟩ (.slice ah m.length af)).cell? ⟨B,22,none⟩=some (.slice ah m.length af):=World.cell?_setCell_same _ _ _ ((World.cell?_setCell_other _ _ _ _ (hd 21 22 (by decide))).trans bM);have e23:((w5.setCell ⟨B,21,none⟩ (.slice ag p.length ae)).setCell ⟨B,22,none⟩ (.slice ah m.length af)).cell? ⟨B,23,none⟩=some (.slice Aap ap.length cap'):=(World.cell?_setCell_other _ _ _ _ (hd 22 23 (by decide))).trans ((World.cell?_setCell_other _ _ _ _ (hd 21 23 (by decide))).trans av);have e24:((w5.setCell ⟨B,21,none⟩ (.slice ag p.length ae)).setCell ⟨B,22,none⟩ (.slice ah m.length af)).cell? ⟨B,24,none⟩=some (.slice Aam am.length cam):=(World.cell?_setCell_other _ _ _ _ (hd 22 24 (by decide))).trans ((World.cell?_setCell_other _ _ _ _ (hd 21 24 (by decide))).trans au);have bC:=(o2.far (g':=B) (i:=21) (.slice ag p.length ae) aZ).far (g':=B) (i:=22) (.slice ah m.length af) aZ;have aI:∀q:Addr,q.block≠B->((w5.setCell ⟨B,21,none⟩ (.slice ag p.length ae)).setCell ⟨B,22,none⟩ (.slice ah m.length af)).cell? q=w5.cell? q:=fun q hq=>by
   rw[World.cell?_setCell_other _ _ _ _ (by intro e;exact hq (by rw[<-e])),World.cell?_setCell_other _ _ _ _ (by intro e;exact hq (by rw[<-e]))]
  have bg:((w5.setCell ⟨B,21,none⟩ (.slice ag p.length ae)).setCell ⟨B,22,none⟩ (.slice ah m.length af)).heap.size=w5.heap.size:=by simp[World.setCell]
  have bH:=((ZY.of_below aj (fun _=>False)).trans (ZY.set w5 ⟨B,21,none⟩ (.slice ag p.length ae))).trans (ZY.set _ ⟨B,22,none⟩ (.slice ah m.length af));have aD:=hid bC;have aX:=hid aI;have cu:=hid bg;have df:=hid bH;clear o1 o2 aj hd bC aI bg bH
  go_upto_region 5 with fail
  clear b0 b1 b2 b3 b4 b5 ax bN bM av au bZ bY;generalize ((w5.setCell ⟨B,21,none⟩ (.slice ag p.length ae)).setCell ⟨B,22,none⟩ (.slice ah m.length af))=W6 at *
  go_wp2_with (first
   |(refine wpList_store_row rfl 35 (.tmp 2) (.tmp 38) rfl w.heap.size _ rfl rfl 35 _ aD.out (by kernel_rfl) (by simp) (by simp[Value.oneCell']) ?_)
   |fail)
  have aa:=aD.out.row #[.slice Ao ops.length co,.slice ag p.length ae,.slice ah m.length af,.slice Aap ap.length cap',.slice Aam am.length cam];have r0:=aa.cell 0;have r1:=aa.cell 1;have r2:=aa.cell 2;have r3:=aa.cell 3;have r4:=aa.cell 4;simp only[List.getElem?_toArray,List.getElem?_cons_zero,List.getElem?_cons_succ] at r0 r1 r2 r3 r4;refine bodyPost_ret (v:=.tuple #[.agg #[.slice Ao ops.length co,.slice ag p.length ae,.slice ah m.length af,.slice Aap ap.length cap',.slice Aam am.length cam],.int .i64 0]) (by simp[results,Tryz.results48,go_sem,r0,r1,r2,r3,r4]) rfl ?_;rw[aA.out];have ak:∀q:Addr,q.block≠B->q.block≠w.heap.size->(W6.setRow w.heap.size #[.slice Ao ops.length co,.slice ag p.length ae,.slice ah m.length af,.slice Aap ap.length cap',.slice Aam am.length cam]).cell? q=w5.cell? q:=fun q h1 h2=>(World.cell?_of_block (setRow_other _ _ _ _ h2)).trans (aX.out q h1)
  have aH:(W6.setRow w.heap.size #[.slice Ao ops.length co,.slice ag p.length ae,.slice ah m.length af,.slice Aap ap.length cap',.slice Aam am.length cam]).heap.size=w5.heap.size:=by rw[size_setRow,cu.out]
  have hX0:=aK.out.size;have hw0:=aV.out;have h5:=cB.out;have hBl:=dh.out;have aR:=aM.out.size;exact⟨_,_,_,_,_,rfl,aW.out.keep (fun q hq=>(ak q (Nat.ne_of_gt hq.1) (Nat.ne_of_lt hq.2)).trans (aM.out.cell hq.2)) (fun k hk=>⟨hk.1,by rw[aH];exact Qk hk.2 aR⟩),
   cO.out.keep (fun q hq=>ak q (by have:=hq.1;omega) (by have:=hq.1;omega)) (fun k hk=>⟨by have:=hk.1;omega,by rw[aH];exact hk.2⟩),cZ.out.keep (fun q hq=>ak q (by have:=hq.1;omega) (by have:=hq.1;omega)) (fun k hk=>⟨by have:=hk.1;omega,by rw[aH];exact hk.2⟩),
   di.out.keep (fun q hq=>(ak q (Nat.ne_of_gt hq.1) (Nat.ne_of_lt hq.2)).trans (aM.out.cell hq.2)) (fun k hk=>⟨hk.1,by rw[aH];exact Qk hk.2 aR⟩),dm.out.keep (fun q hq=>(ak q (Nat.ne_of_gt hq.1) (Nat.ne_of_lt hq.2)).trans (aM.out.cell hq.2)) (fun k hk=>⟨hk.1,by rw[aH];exact Qk hk.2 aR⟩),
   (df.out.trans (ZY.setRow W6 w.heap.size _)).mono (fun k hk h=>by
    rcases h with ((h|h)|h)|h
    ·exact h.elim
    ·exact h
    ·exact h
    omega)⟩
theorem zJu {ts:List Z9} {k:Nat} (h:k<ts.length) (but:Int):Yc (ts.drop k) (k:Int) but=((decide ((k:Int)≠but)&&decide (0<ts[k].kids.length)) || Yc (ts.drop (k+1)) ((k+1:Nat):Int) but):=by
 rw[List.drop_eq_getElem_cons h,Yc];rfl
theorem zIm (t:Z9) (A:Option Addr) (cap:Nat) (but:Int) (w:World) (hv:Z8 Z6 w (Lt w.heap.size) t.kids (.slice A t.kids.length cap)) :
  Calls Tryz.prog 91 #[.agg #[.int .i64 t.kind,.string t.text,.int .i64 t.cols,.slice A t.kids.length cap],.int .i64 but] w (XA w (Yc t.kids 0 but)):=by
 obtain⟨tk,tx,tc,ts⟩:=t;simp only[Z9.kind,Z9.text,Z9.cols,Z9.kids] at *;obtain⟨_,_,rs,hq,ak,ag,ae,af⟩:=hv;cases hq;unfold maxLen at ag;have aj:ts.length<=9223372036854775807:=by omega
 have H:Hid (Zd w (Lt w.heap.size) A rs/\ZG Z6 w (Lt w.heap.size) ts rs):=⟨ae,af⟩;clear ae af;have ax:=hid (ZW w (.cells #[.int .i64 tk,.string tx,.int .i64 tc,.slice A ts.length cap] 24));go_enter Tryz.func91,Tryz.ntmps91
 go_wp2_with fail
 go_loopw [10] (fun i wr=>Below w.heap.size w wr/\∃k:Nat,k<=ts.length/\i=.int .i64 k/\Yc (ts.drop k) (k:Int) but=Yc ts 0 but) (fun i _=>ts.length-(intOf i).toNat)
 case atStart=>exact⟨ax.out,0,Qj _,rfl,rfl⟩
 obtain⟨hb,k,hk,rfl,aa⟩:=hrel;have HR:=hid aa;have HB:=hid hb;clear aa;by_cases ah:k<ts.length
 ·obtain⟨g,o,B,bc,bs,rfl,hg,c0,c1,c2,c3,_,_,_,av,au,ae,af⟩:=YW (H.out.1.keep (Zr.of_below hb (Qi _)) (Lt.mono hb.size)) (H.out.2.keep (Zr.of_below hb (Qi _)) (Lt.mono hb.size)) ah;have HT:=hid (zJu ah but);have i0:(k:Int)<(ts.length:Int):=by omega
  have HX:=hid (hb.alloc hb.size (Obj.cells #[.int .i64 ts[k].kind,.string ts[k].text,.int .i64 ts[k].cols,.slice B ts[k].kids.length bc] 24));clear hb ae af av au;generalize ts[k]=x at *;obtain⟨xk,xt,xc,xs⟩:=x;simp only[Z9.kind,Z9.text,Z9.cols,Z9.kids] at *;by_cases h1:(k:Int)=but
  ·have i1:((k:Int) != but)=false:=by simp[h1]
   have HF:Hid (Yc (ts.drop (k+1)) ((k+1:Nat):Int) but=Yc ts 0 but):=by show _=_;rw[<-HR.out,HT.out];simp[h1]
   clear h1
   go_wp2_with fail
   go_roundw
   case rel=>exact⟨HX.out,k+1,by omega,by go_num,HF.out⟩
   case measure=>simp[intOf];omega
  have i1:((k:Int) != but)=true:=by simp[h1]
  rcases Nat.eq_zero_or_pos xs.length with h2|h2
  ·have HF:Hid (Yc (ts.drop (k+1)) ((k+1:Nat):Int) but=Yc ts 0 but):=by show _=_;rw[<-HR.out,HT.out];simp[h2]
   rw[h2] at c3 HX;clear h1 h2
   go_wp2_with fail
   go_roundw
   case rel=>exact⟨HX.out,k+1,by omega,by go_num,HF.out⟩
   case measure=>simp[intOf];omega
  have HF:Hid (Yc ts 0 but=true):=by show _=_;rw[<-HR.out,HT.out];simp[h1,h2]
  have i2:(0:Int)<(xs.length:Int):=by omega
  clear h1
  go_wp2_with fail
  go_ret;exact⟨by rw[HF.out];rfl,HX.out⟩
 have HF:Hid (Yc ts 0 but=false):=by show _=_;rw[<-HR.out,List.drop_of_length_le (by omega),Yc]
 clear hb
 go_wp2_with fail
 go_ret;exact⟨by rw[HF.out];rfl,HB.out⟩
theorem zK4 (x0 x1 x2 x3 x4 x5 x6 x9 ax av au ak aj ah ag af ae aa:Value) (a b:Int) (w:World):Calls Tryz.prog 43 #[.agg #[x0,x1,x2,x3,x4,x5,x6,.int .i64 a,.int .i64 b,x9,ax,av,au,ak,aj,ah,ag,af,ae,aa]] w (XA w (decide (a<b))):=by
 have HB:=hid (ZW w (.cells #[x0,x1,x2,x3,x4,x5,x6,.int .i64 a,.int .i64 b,x9,ax,av,au,ak,aj,ah,ag,af,ae,aa] 69));go_enter Tryz.func43,Tryz.ntmps43
 go_wp2_with fail
 go_ret;exact⟨rfl,HB.out⟩
def OpP (S:Nat->Prop) (w:World) (op:ZL) (e:Ending) (w':World):Prop:=∃Ar cr An cn,e=.returned (.agg (Zm op (.slice Ar op.row.length cr) (.slice An op.nodes.length cn)))/\Z0 w' (fun k=>k<w'.heap.size/\(S k\/w.heap.size<=k)) op.row (.slice Ar op.row.length cr)/\Z8 Z6 w' (fun k=>k<w'.heap.size/\(S k\/w.heap.size<=k)) op.nodes (.slice An op.nodes.length cn)/\Below w.heap.size w w'
theorem zVi (S:Nat->Prop) (t:Z9) (r:List Int) (a b:Int) (A Ar:Option Addr) (cap cr:Nat) (x4 x5 x9 aB aA az ay ax av au ak aj ah:Value) (w:World) (hv:Z8 Z6 w (Lt w.heap.size) t.kids (.slice A t.kids.length cap)) (aH:Zk t) (aJ:ZR t<=900000) (hr:Z0 w (fun k=>k<w.heap.size/\S k) r (.slice Ar r.length cr)) (ha:Z4 a) (hb:Z4 b) :
  Calls Tryz.prog 46 #[.agg #[.int .i64 t.kind,.string t.text,.int .i64 t.cols,.slice A t.kids.length cap,x4,x5,.slice Ar r.length cr,.int .i64 a,.int .i64 b,x9,aB,aA,az,ay,ax,av,au,ak,aj,ah]] w (OpP S w (Zf r a (Yk t r a b).1)):=by
 obtain⟨W0,ag⟩:∃W0,(w.alloc (.cells #[.int .i64 t.kind,.string t.text,.int .i64 t.cols,.slice A t.kids.length cap,x4,x5,.slice Ar r.length cr,.int .i64 a,.int .i64 b,x9,aB,aA,az,ay,ax,av,au,ak,aj,ah] 69)).alloc (.cells #[.int .i64 0,.slice none 0 0,.int .i64 0,.int .i64 0,.slice none 0 0,.int .i64 0,.string ⟨#[]⟩,.string ⟨#[]⟩] 49)=W0:=⟨_,rfl⟩;have aG:W0.heap.size=w.heap.size+1+1:=by rw[<-ag];simp
 have ae:Below w.heap.size w W0:=by rw[<-ag];exact((Qg _ _).alloc (Qi _) _).alloc (by simp) _
 have aa:Z5 W0 w.heap.size (.cells #[.int .i64 t.kind,.string t.text,.int .i64 t.cols,.slice A t.kids.length cap,x4,x5,.slice Ar r.length cr,.int .i64 a,.int .i64 b,x9,aB,aA,az,ay,ax,av,au,ak,aj,ah] 69):=by rw[<-ag];exact(Z5.at0 _ _).al _
 have aI:Z5 W0 (w.heap.size+1) (.cells #[.int .i64 0,.slice none 0 0,.int .i64 0,.int .i64 0,.slice none 0 0,.int .i64 0,.string ⟨#[]⟩,.string ⟨#[]⟩] 49):=by rw[<-ag];exact Z5.at1 _ _ _
 have CI:=hid (zOu t r a b A Ar cap cr W0 (hv.below ae ae.size) aH aJ (hr.keep (S':=Lt W0.heap.size) (fun q hq=>ae.cell hq.1) (fun k hk=>Qk hk.1 ae.size)) ha hb);have aO:=hid hr;have aF:=hid ae;have aN:=hid aG;have aM:=hid aa;have aL:=hid aI;have m0:=aa.cell 0;have m1:=aa.cell 1;have m2:=aa.cell 2;have m3:=aa.cell 3;have m6:=aa.cell 6;have m7:=aa.cell 7;have m8:=aa.cell 8;simp only[List.getElem?_toArray,List.getElem?_cons_zero,List.getElem?_cons_succ] at m0 m1 m2 m3 m6 m7 m8;generalize Yk t r a b=IR at *;obtain⟨ir,ie⟩:=IR;simp only[Zf] at *;clear hv aH aJ hr ha hb ae aG aa aI;go_enter Tryz.func46,Tryz.ntmps46
 go_wp2_with fail
 refine CI.out.mono ?_;rintro e w1 ⟨v1,rfl,aC,af⟩;obtain⟨A1,c1,rfl⟩:=aC.form;clear m0 m1 m2 m3 m6 m7 m8;have q1:=aM.out.below af;have q2:=aL.out.below af;have m6:=q1.cell 6;have m7:=q1.cell 7;simp only[List.getElem?_toArray,List.getElem?_cons_zero,List.getElem?_cons_succ] at m6 m7;have aP:=hid aC;have aQ:=hid (aF.out.trans (af.mono aF.out.size));have aK:=hid q2;clear aC af q1 q2 aM aL
 go_wp2_with (first
  |(refine wpList_store_row rfl 49 (.tmp 2) (.tmp 20) rfl (w.heap.size+1) _ rfl rfl 49 _ aK.out (by kernel_rfl) (by simp) (by simp[Value.oneCell']) ?_)
  |fail)
 refine bodyPost_ret (v:=.agg #[.int .i64 2,.slice Ar r.length cr,.int .i64 a,.int .i64 0,.slice A1 ir.length c1,.int .i64 0,.string ⟨#[]⟩,.string ⟨#[]⟩]) (results_cell_row Tryz.results46 _ _ (w.heap.size+1) 49 _ (0,0) _ rfl (setRow_heap _ _ _ _ _ _ aK.out) Tryz.underlying49 rfl (by kernel_rfl)) rfl ?_;have hz:=aN.out;have aD:=aQ.out;exact⟨_,_,A1,c1,rfl,aO.out.keep (fun q hq=>(World.cell?_of_block (setRow_other _ _ _ _ (by have:q.block<w.heap.size:=hq.1;omega))).trans (aD.cell hq.1)) (fun k hk=>⟨by rw[size_setRow];exact Qk hk.1 aD.size,.inl hk.2⟩),
  aP.out.keep (fun q hq=>World.cell?_of_block (setRow_other _ _ _ _ (by have:=hq.1;omega))) (fun k hk=>⟨by rw[size_setRow];exact hk.2,.inr (by have:=hk.1;have:=aF.out.size;omega)⟩),Y6 aD (by omega) _⟩
