/- T -/
import Derived.Test.YthpngeboknmllaaGreatQ5d11
set_option linter.unusedVariables false
set_option linter.unusedSimpArgs false
set_option maxHeartbeats 8000000
set_option maxRecDepth 100000
namespace Go.Proofs.YthpngeboknmllaaGreat
open Go.RowKit
def YF:Z9->List ZL->Z9×Int
 |t,[]=>(t,0)
 |t,op::ops=>if (Zw t op).2≠0 then (ZN,(Zw t op).2) else YF (Zw t op).1 ops
def YB (t:Z9) (ops:List ZL):Z9×Int:=if ZU t=false then (ZN,1) else YF t ops
def zIx (w:World) (r:Z9×Int) (e:Ending) (w':World):Prop :=
 ∃v i,e=.returned (.tuple #[.agg #[.int .i64 r.1.kind,.string r.1.text,.int .i64 r.1.cols,v],.int .i64 i,.int .i64 r.2])/\Z8 Z6 w' (Lt w'.heap.size) r.1.kids v/\Below w.heap.size w w'
def zVy (S:Nat->Prop) (w:World) (r:Z9×Int) (e:Ending) (w':World):Prop :=
 ∃v i,e=.returned (.tuple #[.agg #[.int .i64 r.1.kind,.string r.1.text,.int .i64 r.1.cols,v],.int .i64 i,.int .i64 r.2])/\Z8 Z6 w' (NS S w.heap.size w') r.1.kids v/\Below w.heap.size w w'
theorem zJy {t:Z9} {op:ZL} (aa:Zk t) (h:(Zw t op).2=0):ZU (Zw t op).1=true/\Zk (Zw t op).1:=by
 unfold Zw at h ⊢;split at h
 ·simp at h
 rename_i h1;rw[if_neg h1];split at h
 ·simp at h
 rename_i h2;rw[if_neg h2];split at h
 ·rename_i h3;exact absurd h h3
 rename_i h3;rw[if_neg h3];split at h
 ·rename_i h4;exact absurd h h4
 rename_i h4;rw[if_neg h4];split at h
 ·simp at h
 rename_i h5;rw[if_neg h5];exact⟨by simpa using h5,zKc t op.row _ aa⟩
theorem zP4 {w:World} {S:Nat->Prop} {ops:List ZL} {cs:List Value} (h4:ZG Za w S ops cs) {k:Nat} (hk:k<ops.length):ops[k].text.size<=maxLen:=by
 obtain⟨c,_,hR,_⟩:=h4.at_ hk;obtain⟨vr,vn,rfl,h1,h2,h3',h4',h5,h6,h7,h8⟩:=hR;exact h6
theorem QP.parts {S:Nat->Prop} {W w':World} {k:Int} {x:ByteArray} {c:Int} {ts:List Z9} {er:Int} {e:Ending} (h:QP S W.drew (.mk k x c ts,er) e w'):∃v,e=.returned (.tuple #[.agg #[.int .i64 k,.string x,.int .i64 c,v],.int .i64 er])/\Z8 Z6 w' (NS S W.heap.size w') ts v/\Below W.heap.size W w':=by
 obtain⟨v,h1,h2,h3⟩:=h;exact⟨v,h1,h2,Xo h3⟩
theorem zKr (t:Z9) (ops:List ZL) (A Ao:Option Addr) (cap co:Nat) (w:World) (S:Nat->Prop) (aB:∀q,S q->q<w.heap.size) (hv:Z8 Z6 w S t.kids (.slice A t.kids.length cap)) (bq:Zk t) (bZ:ZR t<=900000) (ho:Z8 Za w S ops (.slice Ao ops.length co)) (dh:ops.length<=1000) (bK:∀k (hk:k<ops.length),ZQ ops[k].nodes<=100000) :
  Calls Tryz.prog 10 #[.agg #[.int .i64 t.kind,.string t.text,.int .i64 t.cols,.slice A t.kids.length cap],.slice Ao ops.length co] w (zVy S w (YB t ops)):=by
 have C1:Hid (∀W,Below w.heap.size w W->Calls Tryz.prog 29 #[.agg #[.int .i64 t.kind,.string t.text,.int .i64 t.cols,.slice A t.kids.length cap]] W fun e w'=>e=.returned (.bool (ZU t))/\Below W.heap.size W w'):=fun W hW=>QN t A cap W (hv.keep (fun q hq=>hW.cell (aB _ hq)) (fun q hq=>Qk (aB q hq) hW.size)) bq.2.2 (by omega)
 have HA:Hid ((ZU t=false->YB t ops=(ZN,1))/\(ZU t=true->YB t ops=YF t ops)):=⟨fun h=>if_pos h,fun h=>if_neg (by simp[h])⟩;generalize YB t ops=bB at *;generalize bL:ZU t=bV at *;generalize bA:(w.alloc (Obj.cells #[.int .i64 t.kind,.string t.text,.int .i64 t.cols,.slice A t.kids.length cap] 24)).alloc (Obj.cells #[.int .i64 0,.string ⟨#[]⟩,.int .i64 0,.slice none 0 0] 24)=W0;have bH:W0.heap.size=w.heap.size+1+1:=by rw[<-bA];simp
 have aX:Below w.heap.size w W0:=by rw[<-bA];exact Zy (ZW _ _) _
 have bu:ZI W0 w.heap.size t.kind t.text t.cols (.slice A t.kids.length cap)/\Yy W0 w.heap.size:=by
  rw[<-bA];exact⟨(ZI.new w _ _ _ _ _).below (ZW _ _) (by simp),(Yy.new w _ _).below (ZW _ _) (by simp)⟩
 have bz:ZI W0 (w.heap.size+1) 0 ⟨#[]⟩ 0 (.slice none 0 0)/\Yy W0 (w.heap.size+1):=by
  rw[<-bA];have h:=ZI.new (w.alloc (Obj.cells #[.int .i64 t.kind,.string t.text,.int .i64 t.cols,.slice A t.kids.length cap] 24)) 0 ⟨#[]⟩ 0 (.slice none 0 0) 24;have h2:=Yy.new (w.alloc (Obj.cells #[.int .i64 t.kind,.string t.text,.int .i64 t.cols,.slice A t.kids.length cap] 24)) #[.int .i64 0,.string ⟨#[]⟩,.int .i64 0,.slice none 0 0] 24;exact⟨by simpa using h,by simpa using h2⟩
 have KB:Hid (∀W,Below W0.heap.size W0 W->(ZI W w.heap.size t.kind t.text t.cols (.slice A t.kids.length cap)/\Yy W w.heap.size)/\(ZI W (w.heap.size+1) 0 ⟨#[]⟩ 0 (.slice none 0 0)/\Yy W (w.heap.size+1))/\Below w.heap.size w W):=fun W hW =>
  ⟨⟨bu.1.below hW (by omega),bu.2.below hW (by omega)⟩,⟨bz.1.below hW (by omega),bz.2.below hW (by omega)⟩,aX.trans (hW.mono aX.size)⟩
 obtain⟨⟨⟨m0,m1,m2,m3⟩,_⟩,_,_⟩:=KB.out W0 (Qg _ _);have cB:=hid aX;have dB:=hid bH;cases bV with
 |
  false =>
  obtain⟨tk,tx,tc,ts⟩:=t;simp only[Z9.kind,Z9.text,Z9.cols,Z9.kids] at *;clear hv bq bZ ho dh bK bH aX bu bz bL aB;go_enter Tryz.func10,Tryz.ntmps10
  go_wp2_with fail
  refine(C1.out _ cB.out).mono ?_;rintro e w1 ⟨rfl,aT⟩;obtain⟨_,⟨bY,⟨f0,f1,f2,f3⟩⟩,aS⟩:=KB.out w1 aT;have bG:=hid bY;obtain⟨r0,r1,r2,r3⟩:=bY;have bU:=hid aS;clear aT aS m0 m1 m2 m3
  go_wp2_with fail
  generalize hZ:((((w1.setCell _ (.int .i64 0)).setCell _ (.string ⟨#[]⟩)).setCell _ (.int .i64 0)).setCell _ (.slice none 0 0))=Z;obtain⟨⟨e0,e1,e2,e3⟩,ah,ae,aj,_,_⟩:=Xy (o:=0) bG.out.1 bG.out.2.1 bG.out.2.2.1 bG.out.2.2.2 _ _ _ _ hZ.symm;simp only[Nat.zero_add] at e1 e2 e3;have av:=hid (ae w.heap.size w (by omega) bU.out);clear hZ ah ae aj;refine bodyPost_ret (v:=.tuple #[.agg #[.int .i64 0,.string ⟨#[]⟩,.int .i64 0,.slice none 0 0],.int .i64 0,.int .i64 1]) (by simp[results,Tryz.results10,go_sem,e0,e1,e2,e3]) rfl ?_;rw[HA.out.1 (by trivial)];exact⟨_,_,rfl,Z8.nil_ 0 (Qj _) none,av.out⟩
 |true =>
 have dD:Hid (bB=YF t ops):=HA.out.2 (by trivial);have CA:Hid (∀k (hk:k<ops.length) (n:Z9) (A' Ar An:Option Addr) (c' cr cn:Nat) W (Sx:Nat->Prop),Below w.heap.size w W->(∀q,Sx q->q<W.heap.size)->(∀q,S q->Sx q)->Z8 Z6 W Sx n.kids (.slice A' n.kids.length c')->Zk n->ZU n=true->Z8 ZA w S ops[k].row (.slice Ar ops[k].row.length cr)->Z8 Z6 w S ops[k].nodes (.slice An ops[k].nodes.length cn)->Z4 ops[k].at_->Z4 ops[k].n ->
   Calls Tryz.prog 30 #[.agg #[.int .i64 n.kind,.string n.text,.int .i64 n.cols,.slice A' n.kids.length c'],.agg (Zm ops[k] (.slice Ar ops[k].row.length cr) (.slice An ops[k].nodes.length cn))] W (QP Sx W (Zw n ops[k]))):=by
  intro k hk n A' Ar An c' cr cn W Sx hW df cZ hn aJ aW hr di h1 h2;obtain⟨_,_,cK,_,_,_,_,aK⟩:=ho;exact zVp n ops[k] A' Ar An c' cr cn W Sx df hn aJ (by have:=(Yb aW).1;omega) ⟨h1,h2,zP4 aK hk,bK k hk⟩ (hr.keep (fun q hq=>hW.cell (aB _ hq)) (fun q hq=>Qk (aB q hq) hW.size)) (di.keep (fun q hq=>hW.cell (aB _ hq)) (fun q hq=>cZ q hq))
 have HO:Hid (∀k (hk:k<ops.length),∃g o Ar An cr cn,Ao=some ⟨g,o,none⟩/\g<w.heap.size/\(w.cell? ⟨g,o+k*8,none⟩=some (.int .i64 ops[k].kind)/\w.cell? ⟨g,o+k*8+1,none⟩=some (.slice Ar ops[k].row.length cr)/\w.cell? ⟨g,o+k*8+2,none⟩=some (.int .i64 ops[k].at_) /\
   w.cell? ⟨g,o+k*8+3,none⟩=some (.int .i64 ops[k].n)/\w.cell? ⟨g,o+k*8+4,none⟩=some (.slice An ops[k].nodes.length cn)/\w.cell? ⟨g,o+k*8+5,none⟩=some (.int .i64 ops[k].slot) /\
   w.cell? ⟨g,o+k*8+6,none⟩=some (.string ops[k].old)/\w.cell? ⟨g,o+k*8+7,none⟩=some (.string ops[k].text)) /\
   Z8 ZA w S ops[k].row (.slice Ar ops[k].row.length cr)/\Z8 Z6 w S ops[k].nodes (.slice An ops[k].nodes.length cn)/\Z4 ops[k].at_/\Z4 ops[k].n):=by
  intro k hk;obtain⟨_,_,cK,hq,_,_,bI,aK⟩:=ho;cases hq;obtain⟨g,o,Ar,An,cr,cn,e,hg,p0,p1,p2,p3,p4,p5,p6,p7,hr,hn,h1,h2,_⟩:=zLf bI aK hk;exact⟨g,o,Ar,An,cr,cn,e,aB _ hg,⟨p0,p1,p2,p3,p4,p5,p6,p7⟩,hr,hn,h1,h2⟩
 have HV:=hid hv;have aG:=hid aB;have dG:=hid bq;have dC:=hid bL;obtain⟨tk,tx,tc,ts⟩:=t;simp only[Z9.kind,Z9.text,Z9.cols,Z9.kids] at *;clear hv bq bZ ho bK bH aX bu bz bL HA aB;go_enter Tryz.func10,Tryz.ntmps10
 go_wp2_with fail
 refine(C1.out _ cB.out).mono ?_;rintro e w1 ⟨rfl,aT⟩;obtain⟨⟨aR,aQ⟩,⟨aP,aO⟩,aS⟩:=KB.out w1 aT;have bU:=hid aS;have aV:=hid aR;have bD:=hid aQ;have aF:=hid aP;have bC:=hid aO;have dA:Hid (w.heap.size+1+1<=w1.heap.size):=by show _<=_;have:=aT.size;have:=dB.out;omega
 have dF:Hid (Z8 Z6 w1 (NS S (w.heap.size+1+1) w1) ts (.slice A ts.length cap)):=HV.out.keep (fun q hq=>aS.cell (aG.out _ hq)) (fun q hq=>.inl hq);clear aT aS m0 m1 m2 m3 aR aQ aP aO
 go_wp2_with fail
 go_loopw [7] (fun i wr=>∃(k:Nat) (n:Z9) (A':Option Addr) (c':Nat),i=.int .i64 k/\k<=ops.length/\ZI wr w.heap.size n.kind n.text n.cols (.slice A' n.kids.length c')/\Yy wr w.heap.size/\ZI wr (w.heap.size+1) 0 ⟨#[]⟩ 0 (.slice none 0 0)/\Yy wr (w.heap.size+1)/\Z8 Z6 wr (NS S (w.heap.size+1+1) wr) n.kids (.slice A' n.kids.length c')/\Zk n/\ZU n=true/\bB=YF n (ops.drop k)/\Below w.heap.size w wr/\w.heap.size+1+1<=wr.heap.size) (fun i _=>ops.length-(intOf i).toNat)
 case atStart=>exact⟨0,.mk tk tx tc ts,A,cap,rfl,Qj _,aV.out,bD.out,aF.out,bC.out,dF.out,dG.out,dC.out,dD.out,bU.out,dA.out⟩
 obtain⟨k,n,A',c',rfl,hk,aR,aQ,aP,aO,bn,aJ,aW,aa,hb,hz⟩:=hrel;have aF:=hid aP;have aV:=hid aR;have dE:=hid bn;have HB:=hid hb;have HNO:=hid aJ;have HZ:=hid hz;have bD:=hid aQ;have bC:=hid aO;rcases Nat.lt_or_ge k ops.length with bJ|hge
 ·obtain⟨g,o,Ar,An,cr,cn,dm,aD,⟨p0,p1,p2,p3,p4,p5,p6,p7⟩,hr,hn,h1,h2⟩:=HO.out k bJ;subst dm;have KO:Hid (∀W,Below w.heap.size w W->W.cell? ⟨g,o+k*8,none⟩=some (.int .i64 ops[k].kind)/\W.cell? ⟨g,o+k*8+1,none⟩=some (.slice Ar ops[k].row.length cr)/\W.cell? ⟨g,o+k*8+2,none⟩=some (.int .i64 ops[k].at_) /\
    W.cell? ⟨g,o+k*8+3,none⟩=some (.int .i64 ops[k].n)/\W.cell? ⟨g,o+k*8+4,none⟩=some (.slice An ops[k].nodes.length cn)/\W.cell? ⟨g,o+k*8+5,none⟩=some (.int .i64 ops[k].slot) /\
    W.cell? ⟨g,o+k*8+6,none⟩=some (.string ops[k].old)/\W.cell? ⟨g,o+k*8+7,none⟩=some (.string ops[k].text)):=fun W hW =>
   ⟨(hW.cell (p:=⟨g,_,none⟩) aD).trans p0,(hW.cell (p:=⟨g,_,none⟩) aD).trans p1,(hW.cell (p:=⟨g,_,none⟩) aD).trans p2,(hW.cell (p:=⟨g,_,none⟩) aD).trans p3,(hW.cell (p:=⟨g,_,none⟩) aD).trans p4,(hW.cell (p:=⟨g,_,none⟩) aD).trans p5,(hW.cell (p:=⟨g,_,none⟩) aD).trans p6,(hW.cell (p:=⟨g,_,none⟩) aD).trans p7⟩
  have CK:Hid (∀W,Below wr.heap.size wr W->Calls Tryz.prog 30 #[.agg #[.int .i64 n.kind,.string n.text,.int .i64 n.cols,.slice A' n.kids.length c'],.agg (Zm ops[k] (.slice Ar ops[k].row.length cr) (.slice An ops[k].nodes.length cn))] W (QP (NS S (w.heap.size+1+1) wr) W (Zw n ops[k]))):=fun W hW=>CA.out k bJ n A' Ar An c' cr cn W (NS S (w.heap.size+1+1) wr) (Zo hb hW) (fun q hq=>by
    have hz9:=hW.size;rcases hq with hq|hq
    ·have h9:q<w.heap.size:=aG.out _ hq;omega
    ·omega) (fun q hq=>.inl hq) (bn.keep (fun q hq=>hW.cell (by
    rcases hq with hq|hq
    ·have h9:q.block<w.heap.size:=aG.out _ hq;omega
    exact hq.2)) (fun _ h=>h)) aJ aW hr hn h1 h2
  have aC:((Zw n ops[k]).2≠0->bB=(ZN,(Zw n ops[k]).2))/\((Zw n ops[k]).2=0->bB=YF (Zw n ops[k]).1 (ops.drop (k+1))/\ZU (Zw n ops[k]).1=true/\Zk (Zw n ops[k]).1):=by
   rw[List.drop_eq_getElem_cons bJ,YF] at aa;constructor
   ·intro h;rw[aa,if_pos h]
   intro h;rw[if_neg (by simp[h])] at aa;exact⟨aa,zJy aJ h⟩
  have ak:=hid aC;have i5:decide ((k:Int)<(ops.length:Int))=true:=by rw[decide_eq_true_eq];omega
  have i6:(0:Int)<=(k:Int):=by omega
  have i7:(k:Int)<(ops.length:Int):=by omega
  obtain⟨p0,p1,p2,p3,p4,p5,p6,p7⟩:=KO.out wr hb;obtain⟨m0,m1,m2,m3⟩:=aR;clear aC aa aJ aW hr hn h1 h2 bn aQ aP aO CA HO;generalize ops[k]=op at *;generalize Zw n op=R at *;obtain⟨⟨rk,rx,rc,rs⟩,er⟩:=R;obtain⟨nk,nx,nc,ns⟩:=n;obtain⟨kind,row,at_,n,nodes,slot,old,text⟩:=op;simp only[Zm,Z9.kind,Z9.text,Z9.cols,Z9.kids] at *;have ne1:¬(wr.heap.size=w.heap.size):=by omega
  have ne2:¬(wr.heap.size=g):=by omega
  clear hb hz
  go_wp2_with fail
  go_region_held3 (fun w'=>(w'.cell? ⟨w.heap.size,0,none⟩=some (.int .i64 nk)/\w'.cell? ⟨w.heap.size,1,none⟩=some (.string nx)/\w'.cell? ⟨w.heap.size,2,none⟩=some (.int .i64 nc)/\w'.cell? ⟨w.heap.size,3,none⟩=some (.slice A' ns.length c')) /\
    (w'.cell? ⟨g,o+k*8,none⟩=some (.int .i64 kind)/\w'.cell? ⟨g,o+k*8+1,none⟩=some (.slice Ar row.length cr)/\w'.cell? ⟨g,o+k*8+2,none⟩=some (.int .i64 at_)/\w'.cell? ⟨g,o+k*8+3,none⟩=some (.int .i64 n)/\w'.cell? ⟨g,o+k*8+4,none⟩=some (.slice An nodes.length cn)/\w'.cell? ⟨g,o+k*8+5,none⟩=some (.int .i64 slot)/\w'.cell? ⟨g,o+k*8+6,none⟩=some (.string old)/\w'.cell? ⟨g,o+k*8+7,none⟩=some (.string text))) (go_keep) (first
   |(go_at_call 30;refine(CK.out _ (Qg _ _).drew).mono ?_;intro e w5 h5;obtain⟨v5,rfl,aI,aA⟩:=QP.parts h5;obtain⟨A5,c5,rfl⟩:=aI.form;have bR:=hid aI;have aH:=hid aA;have bg:=hid (Zo HB.out aA);clear h5 aI;obtain⟨m0,m1,m2,m3⟩:=aV.out.below aA (by have:=HZ.out;omega);obtain⟨p0,p1,p2,p3,p4,p5,p6,p7⟩:=KO.out w5 bg.out;clear aA)
   |(go_at_call 30;refine(CK.out _ (ZW _ _).drew).mono ?_;intro e w5 h5;obtain⟨v5,rfl,aI,aA⟩:=QP.parts h5;obtain⟨A5,c5,rfl⟩:=aI.form;have bR:=hid aI;have HQ5:=hid aA;have aH:=hid (Zo (ZW _ _) aA);have bg:=hid (Zo HB.out aH.out);clear h5 aI;obtain⟨m0,m1,m2,m3⟩:=aV.out.below aH.out (by have:=HZ.out;omega);obtain⟨p0,p1,p2,p3,p4,p5,p6,p7⟩:=KO.out w5 bg.out;have hy:=(ZI.new wr 0 ⟨#[]⟩ 0 (.slice none 0 0) 24).below aA (by simp);have cO:=(Yy.new wr #[.int .i64 0,.string ⟨#[]⟩,.int .i64 0,.slice none 0 0] 24).below aA (by simp);have aY:=hid hy;obtain⟨u0,u1,u2,u3⟩:=hy;obtain⟨l0,l1,l2,l3⟩:=cO;clear aA))
  ·obtain⟨X,hX⟩:∃X,w5.alloc (Obj.cells #[.int .i64 rk,.string rx,.int .i64 rc,.slice A5 rs.length c5] 24)=X:=⟨_,rfl⟩;rw[hX];have aU:Below w5.heap.size w5 X:=by rw[<-hX];exact ZW _ _
   have bM:ZI X w5.heap.size rk rx rc (.slice A5 rs.length c5):=by rw[<-hX];exact ZI.new _ _ _ _ _ _
   have dz:w5.heap.size<X.heap.size:=by rw[<-hX];simp
   have ag:Below wr.heap.size wr X:=Zo aH.out aU;have bN:Hid (w.heap.size+1+1<=X.heap.size):=by show _<=_;have:=HZ.out;have:=ag.size;omega
   have bP:Hid (Z8 Z6 X (NS S (w.heap.size+1+1) X) rs (.slice A5 rs.length c5)):=bR.out.keep (fun q hq=>aU.cell (by
    have:=aH.out.size;have:=bg.out.size;rcases hq with (hq|hq)|hq
    ·exact Qk (aG.out _ hq) bg.out.size
    ·omega
    ·omega)) (fun q hq=>by
    have:=aH.out.size;have:=HZ.out;rcases hq with (hq|hq)|hq
    ·exact .inl hq
    ·exact .inr ⟨hq.1,by omega⟩
    exact .inr ⟨by omega,by omega⟩)
   clear hX aU dz m0 m1 m2 m3 p0 p1 p2 p3 p4 p5 p6 p7;have aZ:=hid (Zo HB.out ag);have au:=hid (aF.out.below ag (by have:=HZ.out;omega));have az:=hid (aV.out.below ag (by have:=HZ.out;omega));have ay:=hid (bD.out.below ag (by have:=HZ.out;omega));have ax:=hid (bC.out.below ag (by have:=HZ.out;omega));obtain⟨x0,x1,x2,x3⟩:=bM;clear ag;rcases Decidable.em (er=0) with he|he
   case inr =>
    have i0:(er != 0)=true:=by simpa using he
    have HE:=hid he;obtain⟨r0,r1,r2,r3⟩:=au.out;obtain⟨f0,f1,f2,f3⟩:=ax.out;clear he
    go_wp2_with fail
    generalize hZ:((((X.setCell _ (.int .i64 0)).setCell _ (.string ⟨#[]⟩)).setCell _ (.int .i64 0)).setCell _ (.slice none 0 0))=Z;obtain⟨⟨e0,e1,e2,e3⟩,ah,ae,aj,_,_⟩:=Xy (o:=0) au.out.1 au.out.2.1 au.out.2.2.1 au.out.2.2.2 _ _ _ _ hZ.symm;simp only[Nat.zero_add] at e1 e2 e3;have av:=hid (ae w.heap.size w (by omega) aZ.out);clear hZ ah ae aj;refine bodyPost_ret (v:=.tuple #[.agg #[.int .i64 0,.string ⟨#[]⟩,.int .i64 0,.slice none 0 0],.int .i64 k,.int .i64 er]) (by simp[results,Tryz.results10,go_sem,e0,e1,e2,e3]) rfl ?_;rw[ak.out.1 HE.out];exact⟨_,_,rfl,Z8.nil_ 0 (Qj _) none,av.out⟩
   subst he;obtain⟨y0,y1,y2,y3⟩:=az.out;obtain⟨f0,f1,f2,f3⟩:=ay.out
   go_wp2_with fail
   generalize hZ:((((X.setCell _ (.int .i64 rk)).setCell _ (.string rx)).setCell _ (.int .i64 rc)).setCell _ (.slice A5 rs.length c5))=Z;obtain⟨⟨e0,e1,e2,e3⟩,ah,ae,aj,_,aL⟩:=Xy (o:=0) az.out.1 az.out.2.1 az.out.2.2.1 az.out.2.2.2 _ _ _ _ hZ.symm;simp only[Nat.zero_add] at e1 e2 e3;have av:=hid (ae w.heap.size w (by omega) aZ.out);have aN:=hid aj;have aM:=hid ah;have af:=hid aL;have bW:Hid (ZI Z w.heap.size rk rx rc (.slice A5 rs.length c5)):=⟨e0,e1,e2,e3⟩;clear hZ ah ae aj aL;go_roundw
   case rel =>
    obtain⟨g1,g2,g3⟩:=ak.out.2 (by trivial);refine⟨k+1,.mk rk rx rc rs,A5,c5,by go_num,by omega,bW.out,?_,?_,?_,?_,g3,g2,g1,av.out,?_⟩
    ·exact⟨(af.out _).trans ay.out.1,(af.out _).trans ay.out.2.1,(af.out _).trans ay.out.2.2.1,(af.out _).trans ay.out.2.2.2⟩
    ·exact au.out.keep (fun o=>aN.out ⟨w.heap.size+1,o,none⟩ (by simp))
    ·exact⟨(af.out _).trans ax.out.1,(af.out _).trans ax.out.2.1,(af.out _).trans ax.out.2.2.1,(af.out _).trans ax.out.2.2.2⟩
    ·refine bP.out.keep (fun q hq=>aN.out q ?_) (fun q hq=>?_)
     ·rcases hq with hq|hq
      ·exact Nat.ne_of_lt (aG.out _ hq)
      omega
     rcases hq with hq|hq
     ·exact .inl hq
     exact .inr ⟨hq.1,by have:=aM.out;omega⟩
    have:=aM.out;have:=bN.out;omega
   case measure=>simp[intOf];omega
  obtain⟨X,hX⟩:∃X,((((w5.setCell ⟨wr.heap.size,0,none⟩ (.int .i64 rk)).setCell ⟨wr.heap.size,1,none⟩ (.string rx)).setCell ⟨wr.heap.size,2,none⟩ (.int .i64 rc)).setCell ⟨wr.heap.size,3,none⟩ (.slice A5 rs.length c5))=X:=⟨_,rfl⟩;rw[hX];obtain⟨⟨x0,x1,x2,x3⟩,dn,aU,cu,dw,dx⟩:=Xy (o:=0) aY.out.1 aY.out.2.1 aY.out.2.2.1 aY.out.2.2.2 _ _ _ _ hX.symm;simp only[Nat.zero_add] at x1 x2 x3;have bM:ZI X wr.heap.size rk rx rc (.slice A5 rs.length c5):=⟨x0,x1,x2,x3⟩;have ag:Below wr.heap.size wr X:=aU wr.heap.size wr (Qi _) aH.out;have bN:Hid (w.heap.size+1+1<=X.heap.size):=by show _<=_;have:=HZ.out;have:=ag.size;omega
  have bP:Hid (Z8 Z6 X (NS S (w.heap.size+1+1) X) rs (.slice A5 rs.length c5)):=bR.out.keep (fun q hq=>cu q (by
   have:=HB.out.size;rcases hq with (hq|hq)|hq
   ·have h9:q.block<w.heap.size:=aG.out _ hq;omega
   ·omega
   ·have h9:=hq.1;simp at h9;omega)) (fun q hq=>by
   have:=aH.out.size;have:=HZ.out;rcases hq with (hq|hq)|hq
   ·exact .inl hq
   ·exact .inr ⟨hq.1,by omega⟩
   exact .inr ⟨by have h9:=hq.1;simp at h9;omega,by omega⟩)
  clear hX aU dn cu dw dx m0 m1 m2 m3 p0 p1 p2 p3 p4 p5 p6 p7 u0 u1 u2 u3 l0 l1 l2 l3 x0 x1 x2 x3 aY;have aZ:=hid (Zo HB.out ag);have au:=hid (aF.out.below ag (by have:=HZ.out;omega));have az:=hid (aV.out.below ag (by have:=HZ.out;omega));have ay:=hid (bD.out.below ag (by have:=HZ.out;omega));have ax:=hid (bC.out.below ag (by have:=HZ.out;omega));obtain⟨x0,x1,x2,x3⟩:=bM;clear ag;rcases Decidable.em (er=0) with he|he
  case inr =>
   have i0:(er != 0)=true:=by simpa using he
   have HE:=hid he;obtain⟨r0,r1,r2,r3⟩:=au.out;obtain⟨f0,f1,f2,f3⟩:=ax.out;clear he
   go_wp2_with fail
   generalize hZ:((((X.setCell _ (.int .i64 0)).setCell _ (.string ⟨#[]⟩)).setCell _ (.int .i64 0)).setCell _ (.slice none 0 0))=Z;obtain⟨⟨e0,e1,e2,e3⟩,ah,ae,aj,_,_⟩:=Xy (o:=0) au.out.1 au.out.2.1 au.out.2.2.1 au.out.2.2.2 _ _ _ _ hZ.symm;simp only[Nat.zero_add] at e1 e2 e3;have av:=hid (ae w.heap.size w (by omega) aZ.out);clear hZ ah ae aj;refine bodyPost_ret (v:=.tuple #[.agg #[.int .i64 0,.string ⟨#[]⟩,.int .i64 0,.slice none 0 0],.int .i64 k,.int .i64 er]) (by simp[results,Tryz.results10,go_sem,e0,e1,e2,e3]) rfl ?_;rw[ak.out.1 HE.out];exact⟨_,_,rfl,Z8.nil_ 0 (Qj _) none,av.out⟩
  subst he;obtain⟨y0,y1,y2,y3⟩:=az.out;obtain⟨f0,f1,f2,f3⟩:=ay.out
  go_wp2_with fail
  generalize hZ:((((X.setCell _ (.int .i64 rk)).setCell _ (.string rx)).setCell _ (.int .i64 rc)).setCell _ (.slice A5 rs.length c5))=Z;obtain⟨⟨e0,e1,e2,e3⟩,ah,ae,aj,_,aL⟩:=Xy (o:=0) az.out.1 az.out.2.1 az.out.2.2.1 az.out.2.2.2 _ _ _ _ hZ.symm;simp only[Nat.zero_add] at e1 e2 e3;have av:=hid (ae w.heap.size w (by omega) aZ.out);have aN:=hid aj;have aM:=hid ah;have af:=hid aL;have bW:Hid (ZI Z w.heap.size rk rx rc (.slice A5 rs.length c5)):=⟨e0,e1,e2,e3⟩;clear hZ ah ae aj aL;go_roundw
  case rel =>
   obtain⟨g1,g2,g3⟩:=ak.out.2 (by trivial);refine⟨k+1,.mk rk rx rc rs,A5,c5,by go_num,by omega,bW.out,?_,?_,?_,?_,g3,g2,g1,av.out,?_⟩
   ·exact⟨(af.out _).trans ay.out.1,(af.out _).trans ay.out.2.1,(af.out _).trans ay.out.2.2.1,(af.out _).trans ay.out.2.2.2⟩
   ·exact au.out.keep (fun o=>aN.out ⟨w.heap.size+1,o,none⟩ (by simp))
   ·exact⟨(af.out _).trans ax.out.1,(af.out _).trans ax.out.2.1,(af.out _).trans ax.out.2.2.1,(af.out _).trans ax.out.2.2.2⟩
   ·refine bP.out.keep (fun q hq=>aN.out q ?_) (fun q hq=>?_)
    ·rcases hq with hq|hq
     ·exact Nat.ne_of_lt (aG.out _ hq)
     omega
    rcases hq with hq|hq
    ·exact .inl hq
    exact .inr ⟨hq.1,by have:=aM.out;omega⟩
   have:=aM.out;have:=bN.out;omega
  case measure=>simp[intOf];omega
 obtain rfl:k=ops.length:=by omega
 have i5:decide ((ops.length:Int)<(ops.length:Int))=false:=by rw[decide_eq_false_iff_not];omega
 rw[List.drop_of_length_le (Nat.le_refl _),YF] at aa;have bQ:=hid aa;obtain⟨nk,nx,nc,ns⟩:=n;simp only[Z9.kind,Z9.text,Z9.cols,Z9.kids] at *;obtain⟨m0,m1,m2,m3⟩:=aR;obtain⟨r0,r1,r2,r3⟩:=aP;obtain⟨f0,f1,f2,f3⟩:=aO;clear aa aJ aW bn aQ hb hz CA HO
 go_wp2_with fail
 generalize hZ:((((wr.setCell _ (.int .i64 nk)).setCell _ (.string nx)).setCell _ (.int .i64 nc)).setCell _ (.slice A' ns.length c'))=Z;obtain⟨⟨e0,e1,e2,e3⟩,ah,ae,aj,_,aL⟩:=Xy (o:=0) aF.out.1 aF.out.2.1 aF.out.2.2.1 aF.out.2.2.2 _ _ _ _ hZ.symm;simp only[Nat.zero_add] at e1 e2 e3;have av:=hid (ae w.heap.size w (by omega) HB.out);have aN:=hid aj;have aM:=hid ah;clear hZ ah ae aj aL;refine bodyPost_ret (v:=.tuple #[.agg #[.int .i64 nk,.string nx,.int .i64 nc,.slice A' ns.length c'],.int .i64 0,.int .i64 0]) (by simp[results,Tryz.results10,go_sem,e0,e1,e2,e3]) rfl ?_;rw[bQ.out];refine⟨_,_,rfl,dE.out.keep (fun q hq=>aN.out q ?_) (fun q hq=>?_),av.out⟩
 ·rcases hq with hq|hq
  ·have h9:q.block<w.heap.size:=aG.out _ hq;omega
  omega
 have:=HZ.out;have:=aM.out;rcases hq with hq|hq
 ·exact .inl hq
 exact .inr ⟨by omega,by omega⟩
theorem zMf (t:Z9) (ops:List ZL) (A Ao:Option Addr) (cap co:Nat) (w:World) (hv:Z8 Z6 w (Lt w.heap.size) t.kids (.slice A t.kids.length cap)) (ae:Zk t) (af:ZR t<=900000) (ho:Z8 Za w (Lt w.heap.size) ops (.slice Ao ops.length co)) (aa:ops.length<=1000) (ag:∀k (hk:k<ops.length),ZQ ops[k].nodes<=100000) :
  Calls Tryz.prog 10 #[.agg #[.int .i64 t.kind,.string t.text,.int .i64 t.cols,.slice A t.kids.length cap],.slice Ao ops.length co] w (zIx w (YB t ops)):=by
 refine(zKr t ops A Ao cap co w (Lt w.heap.size) (fun _ h=>h) hv ae af ho aa ag).mono ?_;rintro e w' ⟨v,i,rfl,h1,h2⟩;exact⟨v,i,rfl,h1.keep (fun _ _=>rfl) (fun q hq=>hq.elim (fun h=>Qk h h2.size) (fun h=>h.2)),h2⟩
