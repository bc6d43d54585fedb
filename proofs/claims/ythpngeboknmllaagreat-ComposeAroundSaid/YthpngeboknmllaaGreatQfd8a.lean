/- T -/
import Derived.Test.YthpngeboknmllaaGreatQ2c77
set_option linter.unusedVariables false
set_option linter.unusedSimpArgs false
set_option maxHeartbeats 8000000
set_option maxRecDepth 100000
namespace Go.Proofs.YthpngeboknmllaaGreat
open Go.RowKit
def WK:Z9->List ZB->Z9×Int
 |t,[]=>(t,0)
 |t,op::ops=>if (Ze t op).2≠0 then (ZJ,(Ze t op).2) else WK (Ze t op).1 ops
def Xn (t:Z9) (ops:List ZB):Z9×Int:=if ZN t=false then (ZJ,1) else WK t ops
def zIx (w:World) (r:Z9×Int) (e:Ending) (w':World):Prop :=
 ∃v i,e=.returned (.tuple #[.agg #[.int .i64 r.1.kind,.string r.1.text,.int .i64 r.1.cols,v],.int .i64 i,.int .i64 r.2])/\Z8 Z7 w' (Lt w'.heap.size) r.1.kids v/\Below w.heap.size w w'
def zVy (S:Nat->Prop) (w:World) (r:Z9×Int) (e:Ending) (w':World):Prop :=
 ∃v i,e=.returned (.tuple #[.agg #[.int .i64 r.1.kind,.string r.1.text,.int .i64 r.1.cols,v],.int .i64 i,.int .i64 r.2])/\Z8 Z7 w' (NS S w.heap.size w') r.1.kids v/\Below w.heap.size w w'
theorem zJy {t:Z9} {op:ZB} (aa:Zt t) (h:(Ze t op).2=0):ZN (Ze t op).1=true/\Zt (Ze t op).1:=by
 unfold Ze at h ⊢;split at h
 ·simp at h
 rename_i h1;rw[if_neg h1];split at h
 ·simp at h
 rename_i h2;rw[if_neg h2];split at h
 ·rename_i h3;exact absurd h h3
 rename_i h3;rw[if_neg h3];split at h
 ·rename_i h4;exact absurd h h4
 rename_i h4;rw[if_neg h4];split at h
 ·simp at h
 rename_i h5;rw[if_neg h5];exact⟨by simpa using h5,zKc t op.row _ aa⟩
theorem zP4 {w:World} {S:Nat->Prop} {ops:List ZB} {cs:List Value} (h4:ZK Zb w S ops cs) {k:Nat} (hk:k<ops.length):ops[k].text.size<=maxLen:=by
 obtain⟨c,_,hR,_⟩:=h4.at_ hk;obtain⟨vr,vn,rfl,h1,h2,h3',h4',h5,h6,h7,h8⟩:=hR;exact h6
theorem Sq.parts {S:Nat->Prop} {W w':World} {k:Int} {x:ByteArray} {c:Int} {ts:List Z9} {er:Int} {e:Ending} (h:Sq S W.drew (.mk k x c ts,er) e w'):∃v,e=.returned (.tuple #[.agg #[.int .i64 k,.string x,.int .i64 c,v],.int .i64 er])/\Z8 Z7 w' (NS S W.heap.size w') ts v/\Below W.heap.size W w':=by
 obtain⟨v,h1,h2,h3⟩:=h;exact⟨v,h1,h2,Xt h3⟩
theorem zKr (t:Z9) (ops:List ZB) (A Ao:Option Addr) (cap co:Nat) (w:World) (S:Nat->Prop) (aA:∀q,S q->q<w.heap.size) (hv:Z8 Z7 w S t.kids (.slice A t.kids.length cap)) (bi:Zt t) (bY:ZW t<=900000) (ho:Z8 Zb w S ops (.slice Ao ops.length co)) (df:ops.length<=1000) (bJ:∀k (hk:k<ops.length),ZT ops[k].nodes<=100000) :
  Calls Tryz.prog 10 #[.agg #[.int .i64 t.kind,.string t.text,.int .i64 t.cols,.slice A t.kids.length cap],.slice Ao ops.length co] w (zVy S w (Xn t ops)):=by
 have C1:Hid (∀W,Below w.heap.size w W->Calls Tryz.prog 29 #[.agg #[.int .i64 t.kind,.string t.text,.int .i64 t.cols,.slice A t.kids.length cap]] W fun e w'=>e=.returned (.bool (ZN t))/\Below W.heap.size W w'):=fun W hW=>Tm t A cap W (hv.keep (fun q hq=>hW.cell (aA _ hq)) (fun q hq=>QV (aA q hq) hW.size)) bi.2.2 (by omega)
 have HA:Hid ((ZN t=false->Xn t ops=(ZJ,1))/\(ZN t=true->Xn t ops=WK t ops)):=⟨fun h=>if_pos h,fun h=>if_neg (by simp[h])⟩;generalize Xn t ops=bA at *;generalize bK:ZN t=bV at *;generalize bz:(w.alloc (Obj.cells #[.int .i64 t.kind,.string t.text,.int .i64 t.cols,.slice A t.kids.length cap] 24)).alloc (Obj.cells #[.int .i64 0,.string ⟨#[]⟩,.int .i64 0,.slice none 0 0] 24)=W0;have bG:W0.heap.size=w.heap.size+1+1:=by rw[<-bz];simp
 have aW:Below w.heap.size w W0:=by rw[<-bz];exact Zq (ZX _ _) _
 have bn:ZL W0 w.heap.size t.kind t.text t.cols (.slice A t.kids.length cap)/\YJ W0 w.heap.size:=by
  rw[<-bz];exact⟨(ZL.new w _ _ _ _ _).below (ZX _ _) (by simp),(YJ.new w _ _).below (ZX _ _) (by simp)⟩
 have bu:ZL W0 (w.heap.size+1) 0 ⟨#[]⟩ 0 (.slice none 0 0)/\YJ W0 (w.heap.size+1):=by
  rw[<-bz];have h:=ZL.new (w.alloc (Obj.cells #[.int .i64 t.kind,.string t.text,.int .i64 t.cols,.slice A t.kids.length cap] 24)) 0 ⟨#[]⟩ 0 (.slice none 0 0) 24;have h2:=YJ.new (w.alloc (Obj.cells #[.int .i64 t.kind,.string t.text,.int .i64 t.cols,.slice A t.kids.length cap] 24)) #[.int .i64 0,.string ⟨#[]⟩,.int .i64 0,.slice none 0 0] 24;exact⟨by simpa using h,by simpa using h2⟩
 have KB:Hid (∀W,Below W0.heap.size W0 W->(ZL W w.heap.size t.kind t.text t.cols (.slice A t.kids.length cap)/\YJ W w.heap.size)/\(ZL W (w.heap.size+1) 0 ⟨#[]⟩ 0 (.slice none 0 0)/\YJ W (w.heap.size+1))/\Below w.heap.size w W):=fun W hW =>
  ⟨⟨bn.1.below hW (by omega),bn.2.below hW (by omega)⟩,⟨bu.1.below hW (by omega),bu.2.below hW (by omega)⟩,aW.trans (hW.mono aW.size)⟩
 obtain⟨⟨⟨m0,m1,m2,m3⟩,_⟩,_,_⟩:=KB.out W0 (QQ _ _);have cu:=hid aW;have dB:=hid bG;cases bV with
 |
  false =>
  obtain⟨tk,tx,tc,ts⟩:=t;simp only[Z9.kind,Z9.text,Z9.cols,Z9.kids] at *;clear hv bi bY ho df bJ bG aW bn bu bK aA;go_enter Tryz.func10,Tryz.ntmps10
  go_wp2_with fail
  refine(C1.out _ cu.out).mono ?_;rintro e w1 ⟨rfl,aS⟩;obtain⟨_,⟨bW,⟨f0,f1,f2,f3⟩⟩,aR⟩:=KB.out w1 aS;have bD:=hid bW;obtain⟨r0,r1,r2,r3⟩:=bW;have bR:=hid aR;clear aS aR m0 m1 m2 m3
  go_wp2_with fail
  generalize hZ:((((w1.setCell _ (.int .i64 0)).setCell _ (.string ⟨#[]⟩)).setCell _ (.int .i64 0)).setCell _ (.slice none 0 0))=Z;obtain⟨⟨e0,e1,e2,e3⟩,ah,ae,ai,_,_⟩:=Xz (o:=0) bD.out.1 bD.out.2.1 bD.out.2.2.1 bD.out.2.2.2 _ _ _ _ hZ.symm;simp only[Nat.zero_add] at e1 e2 e3;have au:=hid (ae w.heap.size w (by omega) bR.out);clear hZ ah ae ai;refine bodyPost_ret (v:=.tuple #[.agg #[.int .i64 0,.string ⟨#[]⟩,.int .i64 0,.slice none 0 0],.int .i64 0,.int .i64 1]) (by simp[results,Tryz.results10,go_sem,e0,e1,e2,e3]) rfl ?_;rw[HA.out.1 (by trivial)];exact⟨_,_,rfl,Z8.nil_ 0 (QU _) none,au.out⟩
 |true =>
 have dD:Hid (bA=WK t ops):=HA.out.2 (by trivial);have CA:Hid (∀k (hk:k<ops.length) (n:Z9) (A' Ar An:Option Addr) (c' cr cn:Nat) W (Sx:Nat->Prop),Below w.heap.size w W->(∀q,Sx q->q<W.heap.size)->(∀q,S q->Sx q)->Z8 Z7 W Sx n.kids (.slice A' n.kids.length c')->Zt n->ZN n=true->Z8 ZF w S ops[k].row (.slice Ar ops[k].row.length cr)->Z8 Z7 w S ops[k].nodes (.slice An ops[k].nodes.length cn)->Z4 ops[k].at_->Z4 ops[k].n ->
   Calls Tryz.prog 30 #[.agg #[.int .i64 n.kind,.string n.text,.int .i64 n.cols,.slice A' n.kids.length c'],.agg (Zu ops[k] (.slice Ar ops[k].row.length cr) (.slice An ops[k].nodes.length cn))] W (Sq Sx W (Ze n ops[k]))):=by
  intro k hk n A' Ar An c' cr cn W Sx hW cZ cO hn aI aV hr dh h1 h2;obtain⟨_,_,cB,_,_,_,_,aJ⟩:=ho;exact zVp n ops[k] A' Ar An c' cr cn W Sx cZ hn aI (by have:=(X0 aV).1;omega) ⟨h1,h2,zP4 aJ hk,bJ k hk⟩ (hr.keep (fun q hq=>hW.cell (aA _ hq)) (fun q hq=>QV (aA q hq) hW.size)) (dh.keep (fun q hq=>hW.cell (aA _ hq)) (fun q hq=>cO q hq))
 have HO:Hid (∀k (hk:k<ops.length),∃g o Ar An cr cn,Ao=some ⟨g,o,none⟩/\g<w.heap.size/\(w.cell? ⟨g,o+k*8,none⟩=some (.int .i64 ops[k].kind)/\w.cell? ⟨g,o+k*8+1,none⟩=some (.slice Ar ops[k].row.length cr)/\w.cell? ⟨g,o+k*8+2,none⟩=some (.int .i64 ops[k].at_) /\
   w.cell? ⟨g,o+k*8+3,none⟩=some (.int .i64 ops[k].n)/\w.cell? ⟨g,o+k*8+4,none⟩=some (.slice An ops[k].nodes.length cn)/\w.cell? ⟨g,o+k*8+5,none⟩=some (.int .i64 ops[k].slot) /\
   w.cell? ⟨g,o+k*8+6,none⟩=some (.string ops[k].old)/\w.cell? ⟨g,o+k*8+7,none⟩=some (.string ops[k].text)) /\
   Z8 ZF w S ops[k].row (.slice Ar ops[k].row.length cr)/\Z8 Z7 w S ops[k].nodes (.slice An ops[k].nodes.length cn)/\Z4 ops[k].at_/\Z4 ops[k].n):=by
  intro k hk;obtain⟨_,_,cB,hq,_,_,bH,aJ⟩:=ho;cases hq;obtain⟨g,o,Ar,An,cr,cn,e,hg,p0,p1,p2,p3,p4,p5,p6,p7,hr,hn,h1,h2,_⟩:=Rq bH aJ hk;exact⟨g,o,Ar,An,cr,cn,e,aA _ hg,⟨p0,p1,p2,p3,p4,p5,p6,p7⟩,hr,hn,h1,h2⟩
 have HV:=hid hv;have aF:=hid aA;have dG:=hid bi;have dC:=hid bK;obtain⟨tk,tx,tc,ts⟩:=t;simp only[Z9.kind,Z9.text,Z9.cols,Z9.kids] at *;clear hv bi bY ho bJ bG aW bn bu bK HA aA;go_enter Tryz.func10,Tryz.ntmps10
 go_wp2_with fail
 refine(C1.out _ cu.out).mono ?_;rintro e w1 ⟨rfl,aS⟩;obtain⟨⟨aQ,aP⟩,⟨aO,aN⟩,aR⟩:=KB.out w1 aS;have bR:=hid aR;have aU:=hid aQ;have bC:=hid aP;have aD:=hid aO;have bB:=hid aN;have dA:Hid (w.heap.size+1+1<=w1.heap.size):=by show _<=_;have:=aS.size;have:=dB.out;omega
 have dF:Hid (Z8 Z7 w1 (NS S (w.heap.size+1+1) w1) ts (.slice A ts.length cap)):=HV.out.keep (fun q hq=>aR.cell (aF.out _ hq)) (fun q hq=>.inl hq);clear aS aR m0 m1 m2 m3 aQ aP aO aN
 go_wp2_with fail
 go_loopw [7] (fun i wr=>∃(k:Nat) (n:Z9) (A':Option Addr) (c':Nat),i=.int .i64 k/\k<=ops.length/\ZL wr w.heap.size n.kind n.text n.cols (.slice A' n.kids.length c')/\YJ wr w.heap.size/\ZL wr (w.heap.size+1) 0 ⟨#[]⟩ 0 (.slice none 0 0)/\YJ wr (w.heap.size+1)/\Z8 Z7 wr (NS S (w.heap.size+1+1) wr) n.kids (.slice A' n.kids.length c')/\Zt n/\ZN n=true/\bA=WK n (ops.drop k)/\Below w.heap.size w wr/\w.heap.size+1+1<=wr.heap.size) (fun i _=>ops.length-(intOf i).toNat)
 case atStart=>exact⟨0,.mk tk tx tc ts,A,cap,rfl,QU _,aU.out,bC.out,aD.out,bB.out,dF.out,dG.out,dC.out,dD.out,bR.out,dA.out⟩
 obtain⟨k,n,A',c',rfl,hk,aQ,aP,aO,aN,bg,aI,aV,aa,hb,hz⟩:=hrel;have aD:=hid aO;have aU:=hid aQ;have dE:=hid bg;have HB:=hid hb;have HNO:=hid aI;have HZ:=hid hz;have bC:=hid aP;have bB:=hid aN;rcases Nat.lt_or_ge k ops.length with bI|hge
 ·obtain⟨g,o,Ar,An,cr,cn,dm,aC,⟨p0,p1,p2,p3,p4,p5,p6,p7⟩,hr,hn,h1,h2⟩:=HO.out k bI;subst dm;have KO:Hid (∀W,Below w.heap.size w W->W.cell? ⟨g,o+k*8,none⟩=some (.int .i64 ops[k].kind)/\W.cell? ⟨g,o+k*8+1,none⟩=some (.slice Ar ops[k].row.length cr)/\W.cell? ⟨g,o+k*8+2,none⟩=some (.int .i64 ops[k].at_) /\
    W.cell? ⟨g,o+k*8+3,none⟩=some (.int .i64 ops[k].n)/\W.cell? ⟨g,o+k*8+4,none⟩=some (.slice An ops[k].nodes.length cn)/\W.cell? ⟨g,o+k*8+5,none⟩=some (.int .i64 ops[k].slot) /\
    W.cell? ⟨g,o+k*8+6,none⟩=some (.string ops[k].old)/\W.cell? ⟨g,o+k*8+7,none⟩=some (.string ops[k].text)):=fun W hW =>
   ⟨(hW.cell (p:=⟨g,_,none⟩) aC).trans p0,(hW.cell (p:=⟨g,_,none⟩) aC).trans p1,(hW.cell (p:=⟨g,_,none⟩) aC).trans p2,(hW.cell (p:=⟨g,_,none⟩) aC).trans p3,(hW.cell (p:=⟨g,_,none⟩) aC).trans p4,(hW.cell (p:=⟨g,_,none⟩) aC).trans p5,(hW.cell (p:=⟨g,_,none⟩) aC).trans p6,(hW.cell (p:=⟨g,_,none⟩) aC).trans p7⟩
  have CK:Hid (∀W,Below wr.heap.size wr W->Calls Tryz.prog 30 #[.agg #[.int .i64 n.kind,.string n.text,.int .i64 n.cols,.slice A' n.kids.length c'],.agg (Zu ops[k] (.slice Ar ops[k].row.length cr) (.slice An ops[k].nodes.length cn))] W (Sq (NS S (w.heap.size+1+1) wr) W (Ze n ops[k]))):=fun W hW=>CA.out k bI n A' Ar An c' cr cn W (NS S (w.heap.size+1+1) wr) (Zx hb hW) (fun q hq=>by
    have hz9:=hW.size;rcases hq with hq|hq
    ·have h9:q<w.heap.size:=aF.out _ hq;omega
    ·omega) (fun q hq=>.inl hq) (bg.keep (fun q hq=>hW.cell (by
    rcases hq with hq|hq
    ·have h9:q.block<w.heap.size:=aF.out _ hq;omega
    exact hq.2)) (fun _ h=>h)) aI aV hr hn h1 h2
  have aB:((Ze n ops[k]).2≠0->bA=(ZJ,(Ze n ops[k]).2))/\((Ze n ops[k]).2=0->bA=WK (Ze n ops[k]).1 (ops.drop (k+1))/\ZN (Ze n ops[k]).1=true/\Zt (Ze n ops[k]).1):=by
   rw[List.drop_eq_getElem_cons bI,WK] at aa;constructor
   ·intro h;rw[aa,if_pos h]
   intro h;rw[if_neg (by simp[h])] at aa;exact⟨aa,zJy aI h⟩
  have aj:=hid aB;have i5:decide ((k:Int)<(ops.length:Int))=true:=by rw[decide_eq_true_eq];omega
  have i6:(0:Int)<=(k:Int):=by omega
  have i7:(k:Int)<(ops.length:Int):=by omega
  obtain⟨p0,p1,p2,p3,p4,p5,p6,p7⟩:=KO.out wr hb;obtain⟨m0,m1,m2,m3⟩:=aQ;clear aB aa aI aV hr hn h1 h2 bg aP aO aN CA HO;generalize ops[k]=op at *;generalize Ze n op=R at *;obtain⟨⟨rk,rx,rc,rs⟩,er⟩:=R;obtain⟨nk,nx,nc,ns⟩:=n;obtain⟨kind,row,at_,n,nodes,slot,old,text⟩:=op;simp only[Zu,Z9.kind,Z9.text,Z9.cols,Z9.kids] at *;have ne1:¬(wr.heap.size=w.heap.size):=by omega
  have ne2:¬(wr.heap.size=g):=by omega
  clear hb hz
  go_wp2_with fail
  go_region_held3 (fun w'=>(w'.cell? ⟨w.heap.size,0,none⟩=some (.int .i64 nk)/\w'.cell? ⟨w.heap.size,1,none⟩=some (.string nx)/\w'.cell? ⟨w.heap.size,2,none⟩=some (.int .i64 nc)/\w'.cell? ⟨w.heap.size,3,none⟩=some (.slice A' ns.length c')) /\
    (w'.cell? ⟨g,o+k*8,none⟩=some (.int .i64 kind)/\w'.cell? ⟨g,o+k*8+1,none⟩=some (.slice Ar row.length cr)/\w'.cell? ⟨g,o+k*8+2,none⟩=some (.int .i64 at_)/\w'.cell? ⟨g,o+k*8+3,none⟩=some (.int .i64 n)/\w'.cell? ⟨g,o+k*8+4,none⟩=some (.slice An nodes.length cn)/\w'.cell? ⟨g,o+k*8+5,none⟩=some (.int .i64 slot)/\w'.cell? ⟨g,o+k*8+6,none⟩=some (.string old)/\w'.cell? ⟨g,o+k*8+7,none⟩=some (.string text))) (go_keep) (first
   |(go_at_call 30;refine(CK.out _ (QQ _ _).drew).mono ?_;intro e w5 h5;obtain⟨v5,rfl,aH,az⟩:=Sq.parts h5;obtain⟨A5,c5,rfl⟩:=aH.form;have bQ:=hid aH;have aG:=hid az;have aZ:=hid (Zx HB.out az);clear h5 aH;obtain⟨m0,m1,m2,m3⟩:=aU.out.below az (by have:=HZ.out;omega);obtain⟨p0,p1,p2,p3,p4,p5,p6,p7⟩:=KO.out w5 aZ.out;clear az)
   |(go_at_call 30;refine(CK.out _ (ZX _ _).drew).mono ?_;intro e w5 h5;obtain⟨v5,rfl,aH,az⟩:=Sq.parts h5;obtain⟨A5,c5,rfl⟩:=aH.form;have bQ:=hid aH;have HQ5:=hid az;have aG:=hid (Zx (ZX _ _) az);have aZ:=hid (Zx HB.out aG.out);clear h5 aH;obtain⟨m0,m1,m2,m3⟩:=aU.out.below aG.out (by have:=HZ.out;omega);obtain⟨p0,p1,p2,p3,p4,p5,p6,p7⟩:=KO.out w5 aZ.out;have hy:=(ZL.new wr 0 ⟨#[]⟩ 0 (.slice none 0 0) 24).below az (by simp);have cK:=(YJ.new wr #[.int .i64 0,.string ⟨#[]⟩,.int .i64 0,.slice none 0 0] 24).below az (by simp);have aX:=hid hy;obtain⟨u0,u1,u2,u3⟩:=hy;obtain⟨l0,l1,l2,l3⟩:=cK;clear az))
  ·obtain⟨X,hX⟩:∃X,w5.alloc (Obj.cells #[.int .i64 rk,.string rx,.int .i64 rc,.slice A5 rs.length c5] 24)=X:=⟨_,rfl⟩;rw[hX];have aT:Below w5.heap.size w5 X:=by rw[<-hX];exact ZX _ _
   have bL:ZL X w5.heap.size rk rx rc (.slice A5 rs.length c5):=by rw[<-hX];exact ZL.new _ _ _ _ _ _
   have dz:w5.heap.size<X.heap.size:=by rw[<-hX];simp
   have ag:Below wr.heap.size wr X:=Zx aG.out aT;have bM:Hid (w.heap.size+1+1<=X.heap.size):=by show _<=_;have:=HZ.out;have:=ag.size;omega
   have bN:Hid (Z8 Z7 X (NS S (w.heap.size+1+1) X) rs (.slice A5 rs.length c5)):=bQ.out.keep (fun q hq=>aT.cell (by
    have:=aG.out.size;have:=aZ.out.size;rcases hq with (hq|hq)|hq
    ·exact QV (aF.out _ hq) aZ.out.size
    ·omega
    ·omega)) (fun q hq=>by
    have:=aG.out.size;have:=HZ.out;rcases hq with (hq|hq)|hq
    ·exact .inl hq
    ·exact .inr ⟨hq.1,by omega⟩
    exact .inr ⟨by omega,by omega⟩)
   clear hX aT dz m0 m1 m2 m3 p0 p1 p2 p3 p4 p5 p6 p7;have aY:=hid (Zx HB.out ag);have ak:=hid (aD.out.below ag (by have:=HZ.out;omega));have ay:=hid (aU.out.below ag (by have:=HZ.out;omega));have ax:=hid (bC.out.below ag (by have:=HZ.out;omega));have av:=hid (bB.out.below ag (by have:=HZ.out;omega));obtain⟨x0,x1,x2,x3⟩:=bL;clear ag;rcases Decidable.em (er=0) with he|he
   case inr =>
    have i0:(er != 0)=true:=by simpa using he
    have HE:=hid he;obtain⟨r0,r1,r2,r3⟩:=ak.out;obtain⟨f0,f1,f2,f3⟩:=av.out;clear he
    go_wp2_with fail
    generalize hZ:((((X.setCell _ (.int .i64 0)).setCell _ (.string ⟨#[]⟩)).setCell _ (.int .i64 0)).setCell _ (.slice none 0 0))=Z;obtain⟨⟨e0,e1,e2,e3⟩,ah,ae,ai,_,_⟩:=Xz (o:=0) ak.out.1 ak.out.2.1 ak.out.2.2.1 ak.out.2.2.2 _ _ _ _ hZ.symm;simp only[Nat.zero_add] at e1 e2 e3;have au:=hid (ae w.heap.size w (by omega) aY.out);clear hZ ah ae ai;refine bodyPost_ret (v:=.tuple #[.agg #[.int .i64 0,.string ⟨#[]⟩,.int .i64 0,.slice none 0 0],.int .i64 k,.int .i64 er]) (by simp[results,Tryz.results10,go_sem,e0,e1,e2,e3]) rfl ?_;rw[aj.out.1 HE.out];exact⟨_,_,rfl,Z8.nil_ 0 (QU _) none,au.out⟩
   subst he;obtain⟨y0,y1,y2,y3⟩:=ay.out;obtain⟨f0,f1,f2,f3⟩:=ax.out
   go_wp2_with fail
   generalize hZ:((((X.setCell _ (.int .i64 rk)).setCell _ (.string rx)).setCell _ (.int .i64 rc)).setCell _ (.slice A5 rs.length c5))=Z;obtain⟨⟨e0,e1,e2,e3⟩,ah,ae,ai,_,aK⟩:=Xz (o:=0) ay.out.1 ay.out.2.1 ay.out.2.2.1 ay.out.2.2.2 _ _ _ _ hZ.symm;simp only[Nat.zero_add] at e1 e2 e3;have au:=hid (ae w.heap.size w (by omega) aY.out);have aM:=hid ai;have aL:=hid ah;have af:=hid aK;have bU:Hid (ZL Z w.heap.size rk rx rc (.slice A5 rs.length c5)):=⟨e0,e1,e2,e3⟩;clear hZ ah ae ai aK;go_roundw
   case rel =>
    obtain⟨g1,g2,g3⟩:=aj.out.2 (by trivial);refine⟨k+1,.mk rk rx rc rs,A5,c5,by go_num,by omega,bU.out,?_,?_,?_,?_,g3,g2,g1,au.out,?_⟩
    ·exact⟨(af.out _).trans ax.out.1,(af.out _).trans ax.out.2.1,(af.out _).trans ax.out.2.2.1,(af.out _).trans ax.out.2.2.2⟩
    ·exact ak.out.keep (fun o=>aM.out ⟨w.heap.size+1,o,none⟩ (by simp))
    ·exact⟨(af.out _).trans av.out.1,(af.out _).trans av.out.2.1,(af.out _).trans av.out.2.2.1,(af.out _).trans av.out.2.2.2⟩
    ·refine bN.out.keep (fun q hq=>aM.out q ?_) (fun q hq=>?_)
     ·rcases hq with hq|hq
      ·exact Nat.ne_of_lt (aF.out _ hq)
      omega
     rcases hq with hq|hq
     ·exact .inl hq
     exact .inr ⟨hq.1,by have:=aL.out;omega⟩
    have:=aL.out;have:=bM.out;omega
   case measure=>simp[intOf];omega
  obtain⟨X,hX⟩:∃X,((((w5.setCell ⟨wr.heap.size,0,none⟩ (.int .i64 rk)).setCell ⟨wr.heap.size,1,none⟩ (.string rx)).setCell ⟨wr.heap.size,2,none⟩ (.int .i64 rc)).setCell ⟨wr.heap.size,3,none⟩ (.slice A5 rs.length c5))=X:=⟨_,rfl⟩;rw[hX];obtain⟨⟨x0,x1,x2,x3⟩,dn,aT,bZ,dw,dx⟩:=Xz (o:=0) aX.out.1 aX.out.2.1 aX.out.2.2.1 aX.out.2.2.2 _ _ _ _ hX.symm;simp only[Nat.zero_add] at x1 x2 x3;have bL:ZL X wr.heap.size rk rx rc (.slice A5 rs.length c5):=⟨x0,x1,x2,x3⟩;have ag:Below wr.heap.size wr X:=aT wr.heap.size wr (QT _) aG.out;have bM:Hid (w.heap.size+1+1<=X.heap.size):=by show _<=_;have:=HZ.out;have:=ag.size;omega
  have bN:Hid (Z8 Z7 X (NS S (w.heap.size+1+1) X) rs (.slice A5 rs.length c5)):=bQ.out.keep (fun q hq=>bZ q (by
   have:=HB.out.size;rcases hq with (hq|hq)|hq
   ·have h9:q.block<w.heap.size:=aF.out _ hq;omega
   ·omega
   ·have h9:=hq.1;simp at h9;omega)) (fun q hq=>by
   have:=aG.out.size;have:=HZ.out;rcases hq with (hq|hq)|hq
   ·exact .inl hq
   ·exact .inr ⟨hq.1,by omega⟩
   exact .inr ⟨by have h9:=hq.1;simp at h9;omega,by omega⟩)
  clear hX aT dn bZ dw dx m0 m1 m2 m3 p0 p1 p2 p3 p4 p5 p6 p7 u0 u1 u2 u3 l0 l1 l2 l3 x0 x1 x2 x3 aX;have aY:=hid (Zx HB.out ag);have ak:=hid (aD.out.below ag (by have:=HZ.out;omega));have ay:=hid (aU.out.below ag (by have:=HZ.out;omega));have ax:=hid (bC.out.below ag (by have:=HZ.out;omega));have av:=hid (bB.out.below ag (by have:=HZ.out;omega));obtain⟨x0,x1,x2,x3⟩:=bL;clear ag;rcases Decidable.em (er=0) with he|he
  case inr =>
   have i0:(er != 0)=true:=by simpa using he
   have HE:=hid he;obtain⟨r0,r1,r2,r3⟩:=ak.out;obtain⟨f0,f1,f2,f3⟩:=av.out;clear he
   go_wp2_with fail
   generalize hZ:((((X.setCell _ (.int .i64 0)).setCell _ (.string ⟨#[]⟩)).setCell _ (.int .i64 0)).setCell _ (.slice none 0 0))=Z;obtain⟨⟨e0,e1,e2,e3⟩,ah,ae,ai,_,_⟩:=Xz (o:=0) ak.out.1 ak.out.2.1 ak.out.2.2.1 ak.out.2.2.2 _ _ _ _ hZ.symm;simp only[Nat.zero_add] at e1 e2 e3;have au:=hid (ae w.heap.size w (by omega) aY.out);clear hZ ah ae ai;refine bodyPost_ret (v:=.tuple #[.agg #[.int .i64 0,.string ⟨#[]⟩,.int .i64 0,.slice none 0 0],.int .i64 k,.int .i64 er]) (by simp[results,Tryz.results10,go_sem,e0,e1,e2,e3]) rfl ?_;rw[aj.out.1 HE.out];exact⟨_,_,rfl,Z8.nil_ 0 (QU _) none,au.out⟩
  subst he;obtain⟨y0,y1,y2,y3⟩:=ay.out;obtain⟨f0,f1,f2,f3⟩:=ax.out
  go_wp2_with fail
  generalize hZ:((((X.setCell _ (.int .i64 rk)).setCell _ (.string rx)).setCell _ (.int .i64 rc)).setCell _ (.slice A5 rs.length c5))=Z;obtain⟨⟨e0,e1,e2,e3⟩,ah,ae,ai,_,aK⟩:=Xz (o:=0) ay.out.1 ay.out.2.1 ay.out.2.2.1 ay.out.2.2.2 _ _ _ _ hZ.symm;simp only[Nat.zero_add] at e1 e2 e3;have au:=hid (ae w.heap.size w (by omega) aY.out);have aM:=hid ai;have aL:=hid ah;have af:=hid aK;have bU:Hid (ZL Z w.heap.size rk rx rc (.slice A5 rs.length c5)):=⟨e0,e1,e2,e3⟩;clear hZ ah ae ai aK;go_roundw
  case rel =>
   obtain⟨g1,g2,g3⟩:=aj.out.2 (by trivial);refine⟨k+1,.mk rk rx rc rs,A5,c5,by go_num,by omega,bU.out,?_,?_,?_,?_,g3,g2,g1,au.out,?_⟩
   ·exact⟨(af.out _).trans ax.out.1,(af.out _).trans ax.out.2.1,(af.out _).trans ax.out.2.2.1,(af.out _).trans ax.out.2.2.2⟩
   ·exact ak.out.keep (fun o=>aM.out ⟨w.heap.size+1,o,none⟩ (by simp))
   ·exact⟨(af.out _).trans av.out.1,(af.out _).trans av.out.2.1,(af.out _).trans av.out.2.2.1,(af.out _).trans av.out.2.2.2⟩
   ·refine bN.out.keep (fun q hq=>aM.out q ?_) (fun q hq=>?_)
    ·rcases hq with hq|hq
     ·exact Nat.ne_of_lt (aF.out _ hq)
     omega
    rcases hq with hq|hq
    ·exact .inl hq
    exact .inr ⟨hq.1,by have:=aL.out;omega⟩
   have:=aL.out;have:=bM.out;omega
  case measure=>simp[intOf];omega
 obtain rfl:k=ops.length:=by omega
 have i5:decide ((ops.length:Int)<(ops.length:Int))=false:=by rw[decide_eq_false_iff_not];omega
 rw[List.drop_of_length_le (Nat.le_refl _),WK] at aa;have bP:=hid aa;obtain⟨nk,nx,nc,ns⟩:=n;simp only[Z9.kind,Z9.text,Z9.cols,Z9.kids] at *;obtain⟨m0,m1,m2,m3⟩:=aQ;obtain⟨r0,r1,r2,r3⟩:=aO;obtain⟨f0,f1,f2,f3⟩:=aN;clear aa aI aV bg aP hb hz CA HO
 go_wp2_with fail
 generalize hZ:((((wr.setCell _ (.int .i64 nk)).setCell _ (.string nx)).setCell _ (.int .i64 nc)).setCell _ (.slice A' ns.length c'))=Z;obtain⟨⟨e0,e1,e2,e3⟩,ah,ae,ai,_,aK⟩:=Xz (o:=0) aD.out.1 aD.out.2.1 aD.out.2.2.1 aD.out.2.2.2 _ _ _ _ hZ.symm;simp only[Nat.zero_add] at e1 e2 e3;have au:=hid (ae w.heap.size w (by omega) HB.out);have aM:=hid ai;have aL:=hid ah;clear hZ ah ae ai aK;refine bodyPost_ret (v:=.tuple #[.agg #[.int .i64 nk,.string nx,.int .i64 nc,.slice A' ns.length c'],.int .i64 0,.int .i64 0]) (by simp[results,Tryz.results10,go_sem,e0,e1,e2,e3]) rfl ?_;rw[bP.out];refine⟨_,_,rfl,dE.out.keep (fun q hq=>aM.out q ?_) (fun q hq=>?_),au.out⟩
 ·rcases hq with hq|hq
  ·have h9:q.block<w.heap.size:=aF.out _ hq;omega
  omega
 have:=HZ.out;have:=aL.out;rcases hq with hq|hq
 ·exact .inl hq
 exact .inr ⟨by omega,by omega⟩
theorem zMf (t:Z9) (ops:List ZB) (A Ao:Option Addr) (cap co:Nat) (w:World) (hv:Z8 Z7 w (Lt w.heap.size) t.kids (.slice A t.kids.length cap)) (ae:Zt t) (af:ZW t<=900000) (ho:Z8 Zb w (Lt w.heap.size) ops (.slice Ao ops.length co)) (aa:ops.length<=1000) (ag:∀k (hk:k<ops.length),ZT ops[k].nodes<=100000) :
  Calls Tryz.prog 10 #[.agg #[.int .i64 t.kind,.string t.text,.int .i64 t.cols,.slice A t.kids.length cap],.slice Ao ops.length co] w (zIx w (Xn t ops)):=by
 refine(zKr t ops A Ao cap co w (Lt w.heap.size) (fun _ h=>h) hv ae af ho aa ag).mono ?_;rintro e w' ⟨v,i,rfl,h1,h2⟩;exact⟨v,i,rfl,h1.keep (fun _ _=>rfl) (fun q hq=>hq.elim (fun h=>QV h h2.size) (fun h=>h.2)),h2⟩
