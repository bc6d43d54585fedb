/- T -/
import Derived.Test.YthpngeboknmllaaGreatQ5d16
set_option linter.unusedVariables false
set_option linter.unusedSimpArgs false
set_option maxHeartbeats 16000000
set_option maxRecDepth 100000
namespace Go.Proofs.YthpngeboknmllaaGreat
open Go.RowKit
theorem Ri (t:Z9) (p m:List Int) (A Ap Am:Option Addr) (cap cp cm:Nat) (w:World) (hv:Z8 Z6 w (Lt w.heap.size) t.kids (.slice A t.kids.length cap)) (ay:Zk t) (az:ZR t<=900000) (hp:Z0 w (Lt w.heap.size) p (.slice Ap p.length cp)) (hm:Z0 w (Lt w.heap.size) m (.slice Am m.length cm)) (hpl:p.length<=90000) :
  Calls Tryz.prog 42 #[.agg #[.int .i64 t.kind,.string t.text,.int .i64 t.cols,.slice A t.kids.length cap],.agg #[.slice Ap p.length cp,.slice Am m.length cm]] w fun e w'=>Below w.heap.size w w' /\
   (
    ((ZK t p m).2≠0/\e=.returned (.tuple #[.agg #[.int .i64 0,.string ⟨#[]⟩,.int .i64 0,.slice none 0 0,.slice none 0 0,.slice none 0 0,.slice none 0 0,.int .i64 0,.int .i64 0,.slice none 0 0,.int .i64 0,.slice none 0 0,.bool false,.slice none 0 0,.int .i64 0,.int .i64 0,.int .i64 0,.string ⟨#[]⟩,.int .i64 0,.slice none 0 0],.int .i64 (ZK t p m).2])) \/
    (∃rr ra rb Ar cr A9 n9 c9 af aH aj aC aD aG ah aB ax av au ae ak aF ag aA,ZK t p m=((rr,ra,rb),0)/\e=.returned (.tuple #[.agg #[.int .i64 t.kind,.string t.text,.int .i64 t.cols,.slice A t.kids.length cap,.slice Ap p.length cp,.slice Am m.length cm,.slice Ar rr.length cr,.int .i64 ra,.int .i64 rb,.slice A9 n9 c9,.int .i64 af,.slice aH aj aC,.bool aD,.slice aG ah aB,.int .i64 ax,.int .i64 av,.int .i64 au,.string ae,.int .i64 ak,.slice aF ag aA],.int .i64 0])/\Z0 w' (fun k=>w.heap.size<=k/\k<w'.heap.size) rr (.slice Ar rr.length cr))):=by
 refine(zT8 t p m A Ap Am cap cp cm w hv ay az hp hm (by omega)).mono ?_;rintro e w' (⟨h1,rfl,hb⟩|⟨h1,q,o,Ar,cr,A1,Ai,ci,hpe,hr,hq,hi,hb,h2⟩)
 ·exact⟨hb,.inl ⟨h1,rfl⟩⟩
 have aa:ZK t p m=(((ZK t p m).1.1,(ZK t p m).1.2.1,(ZK t p m).1.2.2),0):=by rw[<-h1]
 refine⟨hb,.inr ?_⟩;rcases h2 with ⟨rfl,rfl⟩|⟨q2,i,s,A2,A3,c3,rfl,hq2,hit,rfl⟩
 ·exact⟨_,_,_,_,_,_,_,_,_,_,_,_,_,_,_,_,_,_,_,_,_,_,_,_,aa,rfl,hr⟩
 exact⟨_,_,_,_,_,_,_,_,_,_,_,_,_,_,_,_,_,_,_,_,_,_,_,_,aa,rfl,hr⟩
theorem zUw {item:Z9} {slot:Int} (h:Zb (Yj [] 0 0 [item] slot)=true):ZU (Z7 [item])=true/\0<=slot/\slot<item.kids.length:=by
 unfold Zb Yj at h;rw[if_neg (by simp),if_pos (by simp)] at h;simp only[Bool.and_eq_true] at h;have ht:=h.2.1;obtain⟨t,h1,h2,h3,h4⟩:=R9 ht;obtain rfl:item=t:=by simpa using h1
 unfold Ye at ht;simp only[Bool.and_eq_true,decide_eq_true_eq] at ht;exact⟨ht.2.1,h2,h3⟩
theorem zRy {item:Z9} (h:ZU (Z7 [item])=true):ZQ [item]<=1000:=by
 have h1:=(Yb h).1;have h2:ZR (Z7 [item])=1+ZQ [item]:=rfl;omega
theorem zVk (t:Z9) (p m:List Int) (item:Z9) (slot:Int) (A Ap Am Ai:Option Addr) (cap cp cm ci:Nat) (w:World) (hv:Z8 Z6 w (Lt w.heap.size) t.kids (.slice A t.kids.length cap)) (bH:Zk t) (dm:ZR t<=900000) (hp:Z0 w (Lt w.heap.size) p (.slice Ap p.length cp)) (hm:Z0 w (Lt w.heap.size) m (.slice Am m.length cm)) (cB:p.length<=90000) (dV:m.length<=90000) (hi:Z8 Z6 w (Lt w.heap.size) item.kids (.slice Ai item.kids.length ci)) (bI:Zk item) (bA:Z4 slot) :
  Calls Tryz.prog 22 #[.agg #[.int .i64 t.kind,.string t.text,.int .i64 t.cols,.slice A t.kids.length cap],.agg #[.slice Ap p.length cp,.slice Am m.length cm],.agg #[.int .i64 item.kind,.string item.text,.int .i64 item.cols,.slice Ai item.kids.length ci],.int .i64 slot] w (ZC w (TN t p m item slot)):=by
 obtain⟨W0,bu⟩:∃W0,(((w.alloc (.cells #[.int .i64 t.kind,.string t.text,.int .i64 t.cols,.slice A t.kids.length cap] 24)).alloc (.cells #[.slice Ap p.length cp,.slice Am m.length cm] 27)).alloc (.cells #[.int .i64 item.kind,.string item.text,.int .i64 item.cols,.slice Ai item.kids.length ci] 24)).alloc (.cells #[.slice none 0 0,.slice none 0 0,.slice none 0 0,.slice none 0 0,.slice none 0 0] 35)=W0:=⟨_,rfl⟩;have ed:Below w.heap.size w W0:=by rw[<-bu];exact Zy (Zy (Zy (ZW _ _) _) _) _
 have cZ:Z5 W0 w.heap.size (.cells #[.int .i64 t.kind,.string t.text,.int .i64 t.cols,.slice A t.kids.length cap] 24):=by rw[<-bu];exact(((Z5.at0 _ _).al _).al _).al _
 have cO:Z5 W0 (w.heap.size+1) (.cells #[.slice Ap p.length cp,.slice Am m.length cm] 27):=by rw[<-bu];exact((Z5.at1 _ _ _).al _).al _
 have bq:Z5 W0 (w.heap.size+1+1) (.cells #[.int .i64 item.kind,.string item.text,.int .i64 item.cols,.slice Ai item.kids.length ci] 24):=by rw[<-bu];exact(Z5.at2 _ _ _ _).al _
 have aH:=hid cZ;have aC:=hid cO;have aB:=hid bq;have dC:Hid (Z5 W0 (w.heap.size+1+1+1) (.cells #[.slice none 0 0,.slice none 0 0,.slice none 0 0,.slice none 0 0,.slice none 0 0] 35)):=by show Z5 _ _ _;rw[<-bu];exact Z5.new _ _ _ (by simp)
 have eF:=hid ed;have dE:Hid (w.heap.size+1+1+1<W0.heap.size):=dC.out.lt;have bn:Hid (∀W,Z5 W w.heap.size (.cells #[.int .i64 t.kind,.string t.text,.int .i64 t.cols,.slice A t.kids.length cap] 24)->Z5 W (w.heap.size+1) (.cells #[.slice Ap p.length cp,.slice Am m.length cm] 27)->W.cell? ⟨w.heap.size,0,none⟩=some (.int .i64 t.kind)/\W.cell? ⟨w.heap.size,1,none⟩=some (.string t.text)/\W.cell? ⟨w.heap.size,2,none⟩=some (.int .i64 t.cols)/\W.cell? ⟨w.heap.size,3,none⟩=some (.slice A t.kids.length cap)/\W.cell? ⟨w.heap.size+1,0,none⟩=some (.slice Ap p.length cp)/\W.cell? ⟨w.heap.size+1,1,none⟩=some (.slice Am m.length cm)):=fun W h1 h2=>⟨h1.cell 0,h1.cell 1,h1.cell 2,h1.cell 3,h2.cell 0,h2.cell 1⟩
 have CL:Hid (∀W,Below w.heap.size w W->Calls Tryz.prog 42 #[.agg #[.int .i64 t.kind,.string t.text,.int .i64 t.cols,.slice A t.kids.length cap],.agg #[.slice Ap p.length cp,.slice Am m.length cm]] W _):=fun W hW=>Ri t p m A Ap Am cap cp cm W (hv.below hW hW.size) bH dm (hp.below hW hW.size) (hm.below hW hW.size) cB
 have CV:Hid (∀W,Below w.heap.size w W->Calls Tryz.prog 53 #[.agg #[.int .i64 t.kind,.string t.text,.int .i64 t.cols,.slice A t.kids.length cap]] W fun e w'=>e=.returned (.bool (ZU t))/\Below W.heap.size W w'):=fun W hW=>Wh t A cap W (hv.below hW hW.size) bH.2.2
 have dD:Hid (∀W gn,Below w.heap.size w W->Z5 W gn (.cells #[.int .i64 item.kind,.string item.text,.int .i64 item.cols,.slice Ai item.kids.length ci] 24)->Z8 Z6 W (Lt W.heap.size) [item] (.slice (some ⟨gn,0,none⟩) 1 1)):=fun W gn hW ho=>zHs (E:=Z6) ho (Yl.2 ⟨_,rfl,bI.1,bI.2.1,bI.2.2,hi.below hW hW.size⟩) ho.lt
 have CF:Hid (∀W gn,Below w.heap.size w W->Z5 W gn (.cells #[.int .i64 item.kind,.string item.text,.int .i64 item.cols,.slice Ai item.kids.length ci] 24)->Calls Tryz.prog 55 #[.agg #[.int .i64 3,.slice none 0 0,.int .i64 0,.int .i64 0,.slice (some ⟨gn,0,none⟩) 1 1,.int .i64 slot,.string ⟨#[]⟩,.string ⟨#[]⟩]] W (XA W (Zb (Yj [] 0 0 [item] slot)))):=fun W gn hW ho=>zM9 (Yj [] 0 0 [item] slot) 0 none (some ⟨gn,0,none⟩) 0 1 W (dD.out W gn hW ho)
 have HE:=hid (zSu t p m item slot);have aL:=hid (Qh hv (Qh bH (Qh dm (Qh hp (Qh hm (Qh cB dV))))));have eB:=hid hi;have aZ:Hid (Z4 slot):=bA;obtain⟨aa,bB⟩:∃aa,TN t p m item slot=aa:=⟨_,rfl⟩;rw[bB] at HE ⊢;obtain⟨m0,m1,m2,m3,n0,n1⟩:=bn.out W0 cZ cO;have i0:W0.cell? ⟨w.heap.size+1+1,0,none⟩=some (.int .i64 item.kind):=bq.cell 0;have i1:W0.cell? ⟨w.heap.size+1+1,1,none⟩=some (.string item.text):=bq.cell 1;have i2:W0.cell? ⟨w.heap.size+1+1,2,none⟩=some (.int .i64 item.cols):=bq.cell 2;have i3:W0.cell? ⟨w.heap.size+1+1,3,none⟩=some (.slice Ai item.kids.length ci):=bq.cell 3;clear hv bH dm hp hm cB dV ed cZ cO bq bB hi bI bA;obtain⟨bv,aF⟩:∃bv,ZU t=bv:=⟨_,rfl⟩;obtain⟨bi,aD⟩:∃bi,Zb (Yj [] 0 0 [item] slot)=bi:=⟨_,rfl⟩;have bg:Hid (bi=true->ZU (Z7 [item])=true/\0<=slot/\slot<item.kids.length):=fun h=>zUw (aD.trans h)
 rw[aF] at CV HE;rw[aD] at CF HE;clear aF aD;go_enter Tryz.func22,Tryz.ntmps22
 go_upto_region 1 with fail
 clear bu
 go_upto_region 2 with (first
  |(refine wpList_store_row rfl 49 (.tmp 10) (.tmp 18) rfl (W0.heap.size+1) _ rfl rfl 49 _ (Z5.at1 _ _ _) (by kernel_rfl) (by simp) (by simp[Value.oneCell']) ?_)
  |fail)
 generalize hX:World.setRow _ _ _=X0;have az:Below W0.heap.size W0 X0:=by rw[<-hX];exact Y6 (Zy (ZW _ _) _) (Nat.le_succ _) _
 have aA:Hid (Z5 X0 W0.heap.size (.cells #[.int .i64 item.kind,.string item.text,.int .i64 item.cols,.slice Ai item.kids.length ci] 24)):=by show Z5 _ _ _;rw[<-hX];exact(setRow_other _ _ _ _ (by omega)).trans ((Z5.at0 W0 _).al _)
 obtain⟨gn,di⟩:∃gn,W0.heap.size=gn:=⟨_,rfl⟩;have ae:Hid (Z5 X0 (W0.heap.size+1) (.cells #[.int .i64 3,.slice none 0 0,.int .i64 0,.int .i64 0,.slice (some ⟨gn,0,none⟩) 1 1,.int .i64 slot,.string ⟨#[]⟩,.string ⟨#[]⟩] 49)):=by show Z5 _ _ _;rw[<-hX,<-di];exact(Z5.at1 W0 _ _).row _
 simp only[di] at aA ae ⊢;have bL:Hid (gn+1≠w.heap.size+1+1+1/\w.heap.size<=gn):=by have:=dE.out;show _/\_;omega
 obtain⟨go,d9⟩:∃go,gn+1=go:=⟨_,rfl⟩;have bK:Hid (go≠w.heap.size+1+1+1):=by have:=bL.out;show _≠_;omega
 have eD:Hid (w.heap.size<=go/\gn≠go):=by have:=bL.out;show _/\_;omega
 have eT:Hid (go≠w.heap.size+1+1):=by have:=dE.out;have:=bL.out;show _≠_;omega
 simp only[d9] at ae ⊢;have ag:=hid (eF.out.trans (az.mono eF.out.size));have aH:=hid (aH.out.below az);have aC:=hid (aC.out.below az);have aB:=hid (aB.out.below az);have HG:=hid (dC.out.below az);clear m0 m1 m2 m3 n0 n1 i0 i1 i2 i3 dC hX az di d9 bL dE;obtain⟨m0,m1,m2,m3,n0,n1⟩:=bn.out X0 aH.out aC.out
 go_wp2_with fail
 refine(CV.out _ ag.out).mono ?_;rintro e wv ⟨rfl,aF⟩;have ag:=hid (ag.out.trans (aF.mono ag.out.size));have aH:=hid (aH.out.below aF);have aC:=hid (aC.out.below aF);have aB:=hid (aB.out.below aF);have aA:=hid (aA.out.below aF);have ae:=hid (ae.out.below aF);have HG:=hid (HG.out.below aF);clear aF m0 m1 m2 m3 n0 n1 CV;cases bv
 case false =>
  have HR:=hid (HE.out.1 rfl);clear HE CF
  go_wp2_with (first
   |(refine wpList_store_row rfl 35 (.tmp 8) (.tmp 27) rfl (w.heap.size+1+1+1) _ rfl rfl 35 _ HG.out (by kernel_rfl) (by simp) (by simp[Value.oneCell']) ?_)
   |fail)
  refine bodyPost_ret (v:=.tuple #[.agg #[.slice none 0 0,.slice none 0 0,.slice none 0 0,.slice none 0 0,.slice none 0 0],.int .i64 1]) (Y1 Tryz.results22 _ _ _ (w.heap.size+1+1+1) 35 _ (0,0) _ rfl (HG.out.row _) rfl Tryz.underlying35 (by kernel_rfl) _ rfl) rfl ?_;rw[HR.out];exact XI 1 (Y6 ag.out (by omega) _)
 case true =>
 obtain⟨o0,o1,o2,o3,o4,o5,o6,o7⟩:=U8 ae.out
 go_wp2_with fail
 refine(CF.out _ _ ag.out aA.out).mono ?_;rintro e wi ⟨rfl,aD⟩;have ag:=hid (ag.out.trans (aD.mono ag.out.size));have aH:=hid (aH.out.below aD);have aC:=hid (aC.out.below aD);have aB:=hid (aB.out.below aD);have aA:=hid (aA.out.below aD);have ae:=hid (ae.out.below aD);have HG:=hid (HG.out.below aD);clear aD CF o0 o1 o2 o3 o4 o5 o6 o7;cases bi
 case false =>
  have HR:=hid (HE.out.1 rfl);clear HE
  go_wp2_with (first
   |(refine wpList_store_row rfl 35 (.tmp 8) (.tmp 27) rfl (w.heap.size+1+1+1) _ rfl rfl 35 _ HG.out (by kernel_rfl) (by simp) (by simp[Value.oneCell']) ?_)
   |fail)
  refine bodyPost_ret (v:=.tuple #[.agg #[.slice none 0 0,.slice none 0 0,.slice none 0 0,.slice none 0 0,.slice none 0 0],.int .i64 1]) (Y1 Tryz.results22 _ _ _ (w.heap.size+1+1+1) 35 _ (0,0) _ rfl (HG.out.row _) rfl Tryz.underlying35 (by kernel_rfl) _ rfl) rfl ?_;rw[HR.out];exact XI 1 (Y6 ag.out (by omega) _)
 case true =>
 have dJ:=hid (bg.out rfl);clear bg;have HSL:=hid dJ.out.2;have bg:=hid dJ.out.1;clear dJ;obtain⟨m0,m1,m2,m3,n0,n1⟩:=bn.out wi aH.out aC.out
 go_wp2_with fail
 refine(CL.out _ ag.out).mono ?_;rintro e w1 ⟨aJ,h1⟩;have dF:=hid (Qh aA.out.lt ae.out.lt);have aH:=hid (aH.out.below aJ);have aC:=hid (aC.out.below aJ);have aB:=hid (aB.out.below aJ);have aA:=hid (aA.out.below aJ);have ae:=hid (ae.out.below aJ);have HG:=hid (HG.out.below aJ);have ag:=hid (ag.out.trans (aJ.mono ag.out.size));have ek:=hid aJ.size;clear aJ m0 m1 m2 m3 n0 n1 CL;rcases h1 with ⟨he,rfl⟩|⟨rr,ra,rb,Ar,cr,A9,n9,c9,bN,dP,bR,dA,dB,dO,bQ,dz,bZ,bY,bW,bM,bU,dN,bP,dx,cK,rfl,dR⟩
 ·have HR:=hid (HE.out.2.1 rfl he);have hse:((ZK t p m).2 != 0)=true:=by simp[he]
  clear HE he;generalize (ZK t p m).2=se at *
  go_upto_region 5 with (first
   |(refine wpList_store_row rfl 69 (.tmp 11) (.tmp 32) rfl w1.heap.size _ rfl rfl 69 _ (Z5.at0 _ _) (by kernel_rfl) (by simp) (by simp[Value.oneCell']) ?_)
   |fail)
  generalize hX:World.setRow _ _ _=X;have eU:Hid (Below w.heap.size w X):=by show Below _ _ _;rw[<-hX];exact Y6 (ag.out.trans ((ZW w1 _).mono ag.out.size)) ag.out.size _
  have HG:Hid (Z5 X (w.heap.size+1+1+1) (.cells #[.slice none 0 0,.slice none 0 0,.slice none 0 0,.slice none 0 0,.slice none 0 0] 35)):=by show Z5 _ _ _;rw[<-hX];exact(setRow_other _ _ _ _ (Nat.ne_of_lt HG.out.lt)).trans (HG.out.al _)
  clear hX
  go_wp2_with (first
   |(refine wpList_store_row rfl 35 (.tmp 8) (.tmp 36) rfl (w.heap.size+1+1+1) _ rfl rfl 35 _ HG.out (by kernel_rfl) (by simp) (by simp[Value.oneCell']) ?_)
   |fail)
  refine bodyPost_ret (v:=.tuple #[.agg #[.slice none 0 0,.slice none 0 0,.slice none 0 0,.slice none 0 0,.slice none 0 0],.int .i64 se]) (Y1 Tryz.results22 _ _ _ (w.heap.size+1+1+1) 35 _ (0,0) _ rfl (HG.out.row _) rfl Tryz.underlying35 (by kernel_rfl) _ rfl) rfl ?_;rw[HR.out];exact XI se (Y6 eU.out (by omega) _)
 have HR:=hid (HE.out.2.2 rr ra rb rfl cK);have HF:=hid (U5 cK aL.out.2.2.2.2.2.1 aL.out.2.2.2.2.2.2);clear HE cK
 go_upto_region 5 with (first
  |(refine wpList_store_row rfl 69 (.tmp 11) (.tmp 32) rfl w1.heap.size _ rfl rfl 69 _ (Z5.at0 _ _) (by kernel_rfl) (by simp) (by simp[Value.oneCell']) ?_)
  |fail)
 generalize hX:World.setRow _ _ _=X;have az:Below w1.heap.size w1 X:=by rw[<-hX];exact Y6 (ZW w1 _) (Qi _) _
 have aU:Hid (Z5 X w1.heap.size (.cells #[.int .i64 t.kind,.string t.text,.int .i64 t.cols,.slice A t.kids.length cap,.slice Ap p.length cp,.slice Am m.length cm,.slice Ar rr.length cr,.int .i64 ra,.int .i64 rb,.slice A9 n9 c9,.int .i64 bN,.slice dP bR dA,.bool dB,.slice dO bQ dz,.int .i64 bZ,.int .i64 bY,.int .i64 bW,.string bM,.int .i64 bU,.slice dN bP dx] 69)):=by show Z5 _ _ _;rw[<-hX];exact(Z5.at0 w1 _).row _
 have bz:Hid (w1.heap.size≠w.heap.size+1+1+1/\w1.heap.size≠go):=⟨fun e=>Nat.lt_irrefl _ (e ▸ HG.out.lt),by have:=dF.out;have:=ek.out;omega⟩;have HG:=hid (HG.out.below az);have aC:=hid (aC.out.below az);have aB:=hid (aB.out.below az);have aA:=hid (aA.out.below az);have ae:=hid (ae.out.below az);have dL:=hid (ag.out.trans (az.mono ag.out.size));have aV:Hid (Z0 X (fun k=>k≠go/\k<X.heap.size) rr (.slice Ar rr.length cr)):=hid (dR.keep (fun q hq=>az.cell hq.2) (fun k hk=>⟨by have:=dF.out;omega,Qk hk.2 az.size⟩));obtain⟨gs,dZ⟩:∃gs,w1.heap.size=gs:=⟨_,rfl⟩;simp only[dZ] at aU bz ⊢;clear hX az dZ ag aH dR dF ek;have s6:X.cell? ⟨gs,6,none⟩=some (.slice Ar rr.length cr):=aU.out.cell 6;have s7:X.cell? ⟨gs,7,none⟩=some (.int .i64 ra):=aU.out.cell 7;have s8:X.cell? ⟨gs,8,none⟩=some (.int .i64 rb):=aU.out.cell 8;have q1:X.cell? ⟨go,1,none⟩=some (.slice none 0 0):=ae.out.cell 1;have q2:X.cell? ⟨go,2,none⟩=some (.int .i64 0):=ae.out.cell 2;have q3:X.cell? ⟨go,3,none⟩=some (.int .i64 0):=ae.out.cell 3;have f1:X.frozen? ⟨go,1,none⟩=false:=ae.out.free 1;have f2:X.frozen? ⟨go,2,none⟩=false:=ae.out.free 2;have f3:X.frozen? ⟨go,3,none⟩=false:=ae.out.free 3;have d1:¬gs=go:=bz.out.2;have d2:¬go=gs:=fun e=>bz.out.2 e.symm
 have v1:IntKind.i64.wrap (rb-ra)=rb-ra:=IntWalk.i64_in _ (by have:=HF.out;omega)
 go_upto_region 7 with fail
 go_region
 generalize hV:World.drew _=V;have aO:ZY (fun k=>k=go) X V:=by rw[<-hV];exact kw
 have ae:Hid (Z5 V go (.cells #[.int .i64 3,.slice Ar rr.length cr,.int .i64 ra,.int .i64 (rb-ra),.slice (some ⟨gn,0,none⟩) 1 1,.int .i64 slot,.string ⟨#[]⟩,.string ⟨#[]⟩] 49)):=by show Z5 _ _ _;rw[<-hV];exact(((ae.out.set (i:=1) _).set (i:=2) _).set (i:=3) _).dr
 have aU:=hid (aO.obj aU.out bz.out.2);have aB:=hid (aO.obj aB.out (fun e=>eT.out e.symm));have aA:=hid (aO.obj aA.out eD.out.2);have HG:=hid (aO.obj HG.out (fun e=>bK.out e.symm));have aT:Hid (Below w.heap.size w V):=dL.out.trans (aO.below dL.out.size (fun k e=>by rw[e];exact eD.out.1));have aV:Hid (Z0 V (Lt V.heap.size) rr (.slice Ar rr.length cr)):=aV.out.keep (fun q hq=>aO.cell hq.2 hq.1) (fun k hk=>Qk hk.2 aO.size);have eP:Hid (gs≠w.heap.size+1+1+1):=bz.out.1;clear hV aO s6 s7 s8 q1 q2 q3 f1 f2 f3 d1 d2 v1 dL bz aC;have v2:IntKind.i64.wrap (ra+1)=ra+1:=IntWalk.i64_in _ (by have:=HF.out;omega);have aK:Hid (∀i∈[ra+1],Z4 i):=fun i hi=>by rw[List.mem_singleton.1 hi];have:=HF.out;exact YU (by omega)
 have HL:Hid (rr.length+[ra+1].length<=100000):=by have:=HF.out;show _+1<=_;omega
 have bJ:Hid (rr.length<=1000000):=by have:=HF.out;show _<=_;omega
 have eu:=hid (dD.out V gn aT.out aA.out);have HO:Hid (Z0 V (NF (fun _=>False) V) rr (.slice Ar rr.length cr)/\Z8 Z6 V (NF (fun _=>False) V) [item] (.slice (some ⟨gn,0,none⟩) 1 1)):=⟨aV.out.keep (fun _ _=>rfl) (fun k hk=>⟨hk,id⟩),eu.out.keep (fun _ _=>rfl) (fun k hk=>⟨hk,id⟩)⟩;have HW:Hid (Below V.heap.size V V):=hid (Qg _ _);have dK:Hid (∀W B pos,BA V W B #[.int .i64 t.kind,.string t.text,.int .i64 t.cols,.slice A t.kids.length cap,.slice Ap p.length cp,.slice Am m.length cm,.slice Ar rr.length cr,.int .i64 ra,.int .i64 rb,.slice A9 n9 c9,.int .i64 bN,.slice dP bR dA,.bool dB,.slice dO bQ dz,.int .i64 bZ,.int .i64 bY,.int .i64 bW,.string bM,.int .i64 bU,.slice dN bP dx] [(Yj rr ra (rb-ra) [item] slot)] pos []->aa=YE t p m [(Yj rr ra (rb-ra) [item] slot)] pos []->Calls Tryz.prog 48 #[.pointer (some ⟨B,0,none⟩)] W (ZC V aa)):=fun W B pos hb hr=>by
  have hw:=aT.out.trans (hb.below.mono aT.out.size);rw[hr];exact zVj hb t p m A Ap Am cap cp cm rfl rfl rfl rfl rfl rfl (aL.out.1.below hw hw.size) aL.out.2.1 aL.out.2.2.1 (aL.out.2.2.2.1.below hw hw.size) (aL.out.2.2.2.2.1.below hw hw.size) (Qf aL.out.2.2.2.2.2.1 (by decide)) (Qf aL.out.2.2.2.2.2.2 (by decide)) (by simp)
 have dI:=hid (eB.out.below aT.out aT.out.size);obtain⟨z,hz⟩:∃z,decide (rb-ra=0)=z:=⟨_,rfl⟩;have i9:((rb-ra)==0)=z:=by rw[<-hz];rfl
 obtain⟨E9,dw⟩:∃E,WA item.kids 0 slot z=E:=⟨_,rfl⟩;rw[hz,dw] at HR;have eQ:=hid dw;clear dD eu dw hz eB
 go_upto_region 8 with fail
 go_cut [13] (fun v wx=>∃B,v=.pointer (some ⟨B,0,none⟩)/\BA V wx B #[.int .i64 t.kind,.string t.text,.int .i64 t.cols,.slice A t.kids.length cap,.slice Ap p.length cp,.slice Am m.length cm,.slice Ar rr.length cr,.int .i64 ra,.int .i64 rb,.slice A9 n9 c9,.int .i64 bN,.slice dP bR dA,.bool dB,.slice dO bQ dz,.int .i64 bZ,.int .i64 bY,.int .i64 bW,.string bM,.int .i64 bU,.slice dN bP dx] [(Yj rr ra (rb-ra) [item] slot)] (rr++[ra+1]) [])
 case first =>
  refine wp_region_noPanic ?_;refine wp_region_held_drew (S:=fun w'=>ZY (fun k=>k=w.heap.size+1+1+1) V w') (by kernel_rfl) (kwt HW.out) (fun hHeld=>?_);refine wpAnyH_take (i:=0) (oi:=⟨some 54,_,_,_,_,_⟩) (v:=_) rfl (by kernel_rfl) (by kernel_rfl) (by kernel_rfl) (fun _ _ _ h=>h) (Xh 69 (.tmp 11) rfl (by rfl) _ rfl (fun w hS=>hS.obj aU.out eP.out) Tryz.underlying69 (by kernel_rfl)) hHeld ?_
  try simp only[qP,qN,qS,qZ,qC]
  refine wpAnyH_take (i:=2) (oi:=⟨some 56,_,_,_,_,_⟩) (v:=_) rfl (by kernel_rfl) (by kernel_rfl) (by kernel_rfl) (fun _ _ _ h=>h) (Xh 49 (.tmp 10) rfl (by rfl) _ rfl (fun w hS=>hS.obj ae.out bK.out) Tryz.underlying49 (by kernel_rfl)) hHeld ?_
  try simp only[qP,qN,qS,qZ,qC]
  refine wpAnyH_take (i:=4) (oi:=⟨some 58,_,_,_,_,_⟩) (v:=_) rfl (by kernel_rfl) (by kernel_rfl) (by kernel_rfl) (fun _ _ _ h=>h) (Or.inl ⟨by rfl,fun w hS=>by clear hS;go_simp;try with_reducible rfl⟩) hHeld ?_
  try simp only[qP,qN,qS,qZ,qC]
  refine wpAnyH_take (i:=5) (oi:=⟨some 59,_,_,_,_,_⟩) (v:=_) rfl (by kernel_rfl) (by kernel_rfl) (by kernel_rfl) (fun _ _ _ h=>h) (Or.inl ⟨by rfl,fun W hS=>by have h:W.cell? ⟨go,1,none⟩=some (.slice Ar rr.length cr):=(hS.obj ae.out bK.out).cell 1;clear hS;go_simp;try with_reducible rfl⟩) hHeld ?_
  try simp only[qP,qN,qS,qZ,qC]
  refine wpAnyH_take (i:=6) (oi:=⟨some 60,_,_,_,_,_⟩) (v:=_) rfl (by kernel_rfl) (by kernel_rfl) (by kernel_rfl) (fun _ _ _ h=>h) (Or.inl ⟨by rfl,fun w hS=>by clear hS;go_simp;try with_reducible rfl⟩) hHeld ?_
  try simp only[qP,qN,qS,qZ,qC]
  refine wpAnyH_take (i:=7) (oi:=⟨some 61,_,_,_,_,_⟩) (v:=_) rfl (by kernel_rfl) (by kernel_rfl) (by kernel_rfl) (fun _ _ _ h=>h) (Or.inl ⟨by rfl,fun W hS=>by have h:W.cell? ⟨go,2,none⟩=some (.int .i64 ra):=(hS.obj ae.out bK.out).cell 2;clear hS;go_simp;try with_reducible rfl⟩) hHeld ?_
  try simp only[qP,qN,qS,qZ,qC]
  refine wpAnyH_take (i:=8) (oi:=⟨some 62,_,_,_,_,_⟩) (v:=_) rfl (by kernel_rfl) (by kernel_rfl) (by kernel_rfl) (fun _ _ _ h=>h) (Or.inl ⟨by rfl,fun w hS=>by clear hS;go_simp;try with_reducible rfl⟩) hHeld ?_
  try simp only[qP,qN,qS,qZ,qC]
  refine wpAnyH_ready (rs:=[1,9]) (by kernel_rfl) (by simp) ?_;refine(AllReadyH.cons (o:=⟨some 55,_,_,_,_,_⟩) rfl (fun K hK=>?_) (AllReadyH.cons (o:=⟨some 63,_,_,_,_,_⟩) rfl (fun K hK=>?_) AllReadyH.nil));go_simp;refine Calls.mono (Wx _ _ _ _ _ _ _ _ _ _ _ _ _ _ _ _ _ _ _ _ V _ (bwt HW.out)) ?_;rintro e wk ⟨B,F,rfl,ah,aj⟩
  try have HO:=hid (Qh (aj.keep (Zv bw HO.out.1)) (aj.keep (Zv bw HO.out.2)))
  try have HR:=hid (YX.keep aj (Zv bw HR.out))
  have HB:=hid ah;have bG:=HB;have HW:=hid ah.below;clear aj ah;refine hK.out _ _ (kwt HW.out) (fun hHeld=>?_);clear hK K
  try simp only[qP,qN,qS,qZ,qC]
  refine wpAnyH_ready (rs:=[3,9]) (by kernel_rfl) (by simp) ?_;refine(AllReadyH.cons (o:=⟨some 57,_,_,_,_,_⟩) rfl (fun K hK=>?_) (AllReadyH.cons (o:=⟨some 63,_,_,_,_,_⟩) rfl (fun K hK=>?_) AllReadyH.nil));go_simp;refine Calls.mono (XO (HB.out.bl bw) (Yj rr ra (rb-ra) [item] slot) _ _ _ _ (by simp) (YZ (Zv bw HO.out.1)) (YZ (Zv bw HO.out.2)) bJ.out (by have:=zRy bg.out;exact Qf this (by decide)) (by simp[Yj,Z4]) (YU (by have:=HF.out;show _<=ra/\ra<=_;omega)) (YU (by have:=HF.out;show _<=rb-ra/\rb-ra<=_;omega)) aZ.out (Qj _) (Qj _)) ?_;rintro e wk ⟨F,rfl,ah,aj⟩
  try have HR:=hid (YX.keep aj (Zv bw HR.out))
  have HB:=hid ah;have bG:=HB;have HW:=hid ah.below;clear aj ah;refine hK.out _ _ (kwt HW.out) (fun hHeld=>?_);clear hK K
  try simp only[qP,qN,qS,qZ,qC]
  refine wpAnyH_ready (rs:=[9]) (by kernel_rfl) (by simp) ?_;refine(AllReadyH.cons (o:=⟨some 63,_,_,_,_,_⟩) rfl (fun K hK=>?_) AllReadyH.nil);go_simp;refine hK.out _ _ (kwt HW.out) (fun hHeld=>?_);clear hK K
  try simp only[qP,qN,qS,qZ,qC]
  refine wpAnyH_ready (rs:=[10]) (by kernel_rfl) (by simp) ?_;refine(AllReadyH.cons (o:=⟨some 64,_,_,_,_,_⟩) rfl (fun K hK=>?_) AllReadyH.nil);go_simp;refine Calls.mono (XN (HB.out.bl bw) rr [(ra+1)] _ _ _ _ ((aV.out.below (bwt HW.out) (bwt HW.out).size)) (TZ _ [(ra+1)] _ (aK.out) (by simp[maxLen])) (HL.out)) ?_;rintro e wk ⟨rfl,af⟩;have HB:=hid af;have HW:=hid af.below;clear af;refine hK.out _ _ (kwt HW.out) (fun hHeld=>?_);clear hK K
  try simp only[qP,qN,qS,qZ,qC]
  rotate_left;go_simp;refine hK.out _ _ (kwt HW.out) (fun hHeld=>?_);clear hK K
  try simp only[qP,qN,qS,qZ,qC]
  refine wpAnyH_ready (rs:=[3]) (by kernel_rfl) (by simp) ?_;refine(AllReadyH.cons (o:=⟨some 57,_,_,_,_,_⟩) rfl (fun K hK=>?_) AllReadyH.nil);go_simp;refine Calls.mono (XO (HB.out.bl bw) (Yj rr ra (rb-ra) [item] slot) _ _ _ _ (by simp) (YZ (Zv bw HO.out.1)) (YZ (Zv bw HO.out.2)) bJ.out (by have:=zRy bg.out;exact Qf this (by decide)) (by simp[Yj,Z4]) (YU (by have:=HF.out;show _<=ra/\ra<=_;omega)) (YU (by have:=HF.out;show _<=rb-ra/\rb-ra<=_;omega)) aZ.out (Qj _) (Qj _)) ?_;rintro e wk ⟨F,rfl,ah,aj⟩;have HR:=hid (Ty [(ra+1)] (aK.out) (by simp[maxLen]) ((BS.bl bG.out bw).hi) aj);have HB:=hid ah;have bG:=HB;have HW:=hid ah.below;clear aj ah;refine hK.out _ _ (kwt HW.out) (fun hHeld=>?_);clear hK K
  try simp only[qP,qN,qS,qZ,qC]
  refine wpAnyH_ready (rs:=[10]) (by kernel_rfl) (by simp) ?_;refine(AllReadyH.cons (o:=⟨some 64,_,_,_,_,_⟩) rfl (fun K hK=>?_) AllReadyH.nil);go_simp;refine Calls.mono (XN (HB.out.bl bw) rr [(ra+1)] _ _ _ _ ((aV.out.below (bwt HW.out) (bwt HW.out).size)) (YZ (Zv bw HR.out)) (HL.out)) ?_;rintro e wk ⟨rfl,af⟩;have HB:=hid af;have HW:=hid af.below;clear af;refine hK.out _ _ (kwt HW.out) (fun hHeld=>?_);clear hK K
  try simp only[qP,qN,qS,qZ,qC]
  rotate_left;go_simp;refine hK.out _ _ (kwt HW.out) (fun hHeld=>?_);clear hK K
  try simp only[qP,qN,qS,qZ,qC]
  refine wpAnyH_ready (rs:=[1]) (by kernel_rfl) (by simp) ?_;refine(AllReadyH.cons (o:=⟨some 55,_,_,_,_,_⟩) rfl (fun K hK=>?_) AllReadyH.nil);go_simp;refine Calls.mono (Wx _ _ _ _ _ _ _ _ _ _ _ _ _ _ _ _ _ _ _ _ V _ (bwt HW.out)) ?_;rintro e wk ⟨B,F,rfl,ah,aj⟩
  try have HO:=hid (Qh (aj.keep (Zv bw HO.out.1)) (aj.keep (Zv bw HO.out.2)))
  have HR:=hid (zJ6 [(ra+1)] (aK.out) (by simp[maxLen]) (fun _ h=>False.elim h) aj);have HB:=hid ah;have bG:=HB;have HW:=hid ah.below;clear aj ah;refine hK.out _ _ (kwt HW.out) (fun hHeld=>?_);clear hK K
  try simp only[qP,qN,qS,qZ,qC]
  refine wpAnyH_ready (rs:=[3]) (by kernel_rfl) (by simp) ?_;refine(AllReadyH.cons (o:=⟨some 57,_,_,_,_,_⟩) rfl (fun K hK=>?_) AllReadyH.nil);go_simp;refine Calls.mono (XO (HB.out.bl bw) (Yj rr ra (rb-ra) [item] slot) _ _ _ _ (by simp) (YZ (Zv bw HO.out.1)) (YZ (Zv bw HO.out.2)) bJ.out (by have:=zRy bg.out;exact Qf this (by decide)) (by simp[Yj,Z4]) (YU (by have:=HF.out;show _<=ra/\ra<=_;omega)) (YU (by have:=HF.out;show _<=rb-ra/\rb-ra<=_;omega)) aZ.out (Qj _) (Qj _)) ?_;rintro e wk ⟨F,rfl,ah,aj⟩
  try have HR:=hid (YX.keep aj (Zv bw HR.out))
  have HB:=hid ah;have bG:=HB;have HW:=hid ah.below;clear aj ah;refine hK.out _ _ (kwt HW.out) (fun hHeld=>?_);clear hK K
  try simp only[qP,qN,qS,qZ,qC]
  refine wpAnyH_ready (rs:=[10]) (by kernel_rfl) (by simp) ?_;refine(AllReadyH.cons (o:=⟨some 64,_,_,_,_,_⟩) rfl (fun K hK=>?_) AllReadyH.nil);go_simp;refine Calls.mono (XN (HB.out.bl bw) rr [(ra+1)] _ _ _ _ ((aV.out.below (bwt HW.out) (bwt HW.out).size)) (YZ (Zv bw HR.out)) (HL.out)) ?_;rintro e wk ⟨rfl,af⟩;have HB:=hid af;have HW:=hid af.below;clear af;refine hK.out _ _ (kwt HW.out) (fun hHeld=>?_);clear hK K
  try simp only[qP,qN,qS,qZ,qC]
  rotate_left
  all_goals
   refine wpAnyH_take (i:=11) (oi:=⟨some 13,_,_,_,_,_⟩) (v:=_) rfl (by kernel_rfl) (by kernel_rfl) (by kernel_rfl) (fun _ _ _ h=>h) (Or.inl ⟨by rfl,fun w hS=>by clear hS;go_simp;try with_reducible rfl⟩) hHeld ?_
   try simp only[qP,qN,qS,qZ,qC]
   refine wpAnyH_done (by kernel_rfl) ?_ _;refine NoPanic.normal ?_
  all_goals
   go_wp2_with fail
   go_meet;exact⟨_,rfl,HB.out⟩
 case rest =>
 obtain⟨B,rfl,af⟩:=hcut;have HB:=hid af;have HW:=hid af.below;clear af;generalize wc=wk at *;have aB:=hid (aB.out.below HW.out);have ae:=hid (ae.out.below HW.out);have dI:=hid (dI.out.below HW.out HW.out.size);have j3:wk.cell? ⟨w.heap.size+1+1,3,none⟩=some (.slice Ai item.kids.length ci):=aB.out.cell 3;have q3:wk.cell? ⟨go,3,none⟩=some (.int .i64 (rb-ra)):=ae.out.cell 3;have q1:wk.cell? ⟨go,1,none⟩=some (.slice Ar rr.length cr):=ae.out.cell 1;have q2:wk.cell? ⟨go,2,none⟩=some (.int .i64 ra):=ae.out.cell 2;clear v2 aK HL HO bJ aU aA
 go_wp2_with fail
 go_loopw [68] (fun i wr=>wr=wk/\∃k:Nat,k<=item.kids.length/\i=.int .i64 k/\WA (item.kids.drop k) (k:Int) slot z=E9) (fun i _=>item.kids.length-(intOf i).toNat)
 case atStart=>exact⟨rfl,0,Qj _,rfl,eQ.out⟩
 obtain⟨dQ,k,hk,rfl,aN⟩:=hrel;rw[dQ];clear dQ;have bC:=hid aN;clear aN;by_cases dX:k<item.kids.length
 ·obtain⟨_,_,rs,hq,dn,df,dS,dY⟩:=dI.out;cases hq;obtain⟨g,o,B9,bc,bs,rfl,hg,c0,c1,c2,c3,_,_,_,eO,eH,cu,dh⟩:=YW dS dY dX;have HT:=hid (zTx dX slot z);have i0:(0:Int)<=(k:Int):=by omega
  have i1:(k:Int)<(item.kids.length:Int):=by omega
  have dH:Hid (item.kids.length<=1000):=by have h1:=zRy bg.out;have h2:=XW item;have h3:ZQ [item]=ZR item+0:=rfl;show _<=_;omega
  have eG:=dH.out;clear dS dY dn df eO eH cu dh hg c0 c1 c2;obtain⟨nk,dU⟩:∃n,item.kids[k].kids.length=n:=⟨_,rfl⟩;rw[dU] at c3 HT;clear dU;by_cases h1:nk=0
  ·rw[h1] at c3;have i2:(((0:Nat):Int)==0)=true:=rfl;by_cases h2:(k:Int)=slot
   ·have i3:((k:Int) != slot)=false:=by simp[h2]
    cases z
    case false =>
     have aM:Hid (WA (item.kids.drop (k+1)) ((k+1:Nat):Int) slot false=E9):=by show _=_;rw[<-bC.out,HT.out,if_neg (by simp[h2])]
     clear h1 h2
     go_wp2_with fail
     go_roundw
     case rel=>exact⟨by trivial,k+1,by omega,by go_num,aM.out⟩
     case measure=>simp[intOf];omega
    case true =>
     have aM:Hid (E9=some (k:Int)):=by show _=_;rw[<-bC.out,HT.out,if_pos ⟨h1,.inr rfl⟩]
     clear h1 h2;have bD:Hid (aa=YE t p m [(Yj rr ra (rb-ra) [item] slot)] (rr++[ra,(k:Int),0]) []):=by show _=_;rw[HR.out,aM.out];rfl
     have dM:Hid (∀i∈[ra,(k:Int),0],Z4 i):=fun i hi=>by
      have:=HF.out;have:=dH.out;simp only[List.mem_cons,List.not_mem_nil,or_false] at hi;rcases hi with rfl|rfl|rfl<;>exact YU (by omega)
     have dG:Hid (rr.length+[ra,(k:Int),0].length<=100000):=by have:=HF.out;show _+3<=_;omega
     go_wp2_with (first|(go_at_call 47;refine Calls.mono (Ur (HB.out.bl (ZW wk _)) rr [ra,(k:Int),0] Ar _ cr _ (aV.out.below (HW.out.trans ((ZW wk _).mono HW.out.size)) (HW.out.trans ((ZW wk _).mono HW.out.size)).size) (TZ _ [ra,(k:Int),0] _ dM.out (by simp[maxLen])) dG.out) ?_;rintro e w5 ⟨rfl,af⟩;have HB:=hid af;clear af)|fail)
     refine Calls.mono (dK.out _ _ _ HB.out bD.out) ?_;rintro e wz ak;have aG:=hid ak;obtain⟨aX,aR,aW,aQ,aY,aS,ax,au,ay,av,rfl,_,_,_,_,_,aP⟩:=ak;have aI:=hid (HG.out.below aP);clear aP;simp only[];go_at_K
     repeat (first|(refine wpList_store_row rfl 35 (.tmp 8) (.tmp 100) rfl (w.heap.size+1+1+1) #[.slice aX aa.1.ops.length aR,.slice aW aa.1.bp.length aQ,.slice aY aa.1.bm.length aS,.slice ax aa.1.ap.length au,.slice ay aa.1.am.length av] rfl rfl 35 _ aI.out (by kernel_rfl) (by simp) (by simp[Value.oneCell']) ?_)|go_values|go_skip|go_guarded|go_step|go_upon)
     refine bodyPost_ret (v:=.tuple #[.agg #[.slice aX aa.1.ops.length aR,.slice aW aa.1.bp.length aQ,.slice aY aa.1.bm.length aS,.slice ax aa.1.ap.length au,.slice ay aa.1.am.length av],.int .i64 aa.2]) (Y1 Tryz.results22 _ _ _ (w.heap.size+1+1+1) 35 _ (0,0) _ rfl (aI.out.row _) rfl Tryz.underlying35 (by kernel_rfl) _ rfl) rfl ?_;exact ZC.put (arr:=#[]) aG.out aI.out (ZY.setRow _ _ _) (size_setRow _ _ _) aT.out (by omega)
   have i3:((k:Int) != slot)=true:=by simp[h2]
   have aM:Hid (E9=some (k:Int)):=by show _=_;rw[<-bC.out,HT.out,if_pos ⟨h1,.inl h2⟩]
   clear h1 h2;have bD:Hid (aa=YE t p m [(Yj rr ra (rb-ra) [item] slot)] (rr++[ra,(k:Int),0]) []):=by show _=_;rw[HR.out,aM.out];rfl
   have dM:Hid (∀i∈[ra,(k:Int),0],Z4 i):=fun i hi=>by
    have:=HF.out;have:=dH.out;simp only[List.mem_cons,List.not_mem_nil,or_false] at hi;rcases hi with rfl|rfl|rfl<;>exact YU (by omega)
   have dG:Hid (rr.length+[ra,(k:Int),0].length<=100000):=by have:=HF.out;show _+3<=_;omega
   go_wp2_with (first|(go_at_call 47;refine Calls.mono (Ur (HB.out.bl (ZW wk _)) rr [ra,(k:Int),0] Ar _ cr _ (aV.out.below (HW.out.trans ((ZW wk _).mono HW.out.size)) (HW.out.trans ((ZW wk _).mono HW.out.size)).size) (TZ _ [ra,(k:Int),0] _ dM.out (by simp[maxLen])) dG.out) ?_;rintro e w5 ⟨rfl,af⟩;have HB:=hid af;clear af)|fail)
   refine Calls.mono (dK.out _ _ _ HB.out bD.out) ?_;rintro e wz ak;have aG:=hid ak;obtain⟨aX,aR,aW,aQ,aY,aS,ax,au,ay,av,rfl,_,_,_,_,_,aP⟩:=ak;have aI:=hid (HG.out.below aP);clear aP;simp only[];go_at_K
   repeat (first|(refine wpList_store_row rfl 35 (.tmp 8) (.tmp 100) rfl (w.heap.size+1+1+1) #[.slice aX aa.1.ops.length aR,.slice aW aa.1.bp.length aQ,.slice aY aa.1.bm.length aS,.slice ax aa.1.ap.length au,.slice ay aa.1.am.length av] rfl rfl 35 _ aI.out (by kernel_rfl) (by simp) (by simp[Value.oneCell']) ?_)|go_values|go_skip|go_guarded|go_step|go_upon)
   refine bodyPost_ret (v:=.tuple #[.agg #[.slice aX aa.1.ops.length aR,.slice aW aa.1.bp.length aQ,.slice aY aa.1.bm.length aS,.slice ax aa.1.ap.length au,.slice ay aa.1.am.length av],.int .i64 aa.2]) (Y1 Tryz.results22 _ _ _ (w.heap.size+1+1+1) 35 _ (0,0) _ rfl (aI.out.row _) rfl Tryz.underlying35 (by kernel_rfl) _ rfl) rfl ?_;exact ZC.put (arr:=#[]) aG.out aI.out (ZY.setRow _ _ _) (size_setRow _ _ _) aT.out (by omega)
  have i2:((nk:Int)==0)=false:=by rw[beq_eq_false_iff_ne];omega
  have aM:Hid (WA (item.kids.drop (k+1)) ((k+1:Nat):Int) slot z=E9):=by show _=_;rw[<-bC.out,HT.out,if_neg (by simp[h1])]
  clear h1
  go_wp2_with fail
  go_roundw
  case rel=>exact⟨by trivial,k+1,by omega,by go_num,aM.out⟩
  case measure=>simp[intOf];omega
 have aM:Hid (E9=none):=by show _=_;rw[<-bC.out,zUy (by omega)]
 have bD:Hid (aa=YE t p m [(Yj rr ra (rb-ra) [item] slot)] (rr++[ra+1]) []):=by show _=_;rw[HR.out,aM.out];rfl
 have i1:¬(k:Int)<(item.kids.length:Int):=by omega
 go_wp2_with fail
 refine Calls.mono (dK.out _ _ _ HB.out bD.out) ?_;rintro e wz ak;have aG:=hid ak;obtain⟨aX,aR,aW,aQ,aY,aS,ax,au,ay,av,rfl,_,_,_,_,_,aP⟩:=ak;have aI:=hid (HG.out.below aP);clear aP;simp only[];go_at_K
 repeat (first|(refine wpList_store_row rfl 35 (.tmp 8) (.tmp 100) rfl (w.heap.size+1+1+1) #[.slice aX aa.1.ops.length aR,.slice aW aa.1.bp.length aQ,.slice aY aa.1.bm.length aS,.slice ax aa.1.ap.length au,.slice ay aa.1.am.length av] rfl rfl 35 _ aI.out (by kernel_rfl) (by simp) (by simp[Value.oneCell']) ?_)|go_values|go_skip|go_guarded|go_step|go_upon)
 refine bodyPost_ret (v:=.tuple #[.agg #[.slice aX aa.1.ops.length aR,.slice aW aa.1.bp.length aQ,.slice aY aa.1.bm.length aS,.slice ax aa.1.ap.length au,.slice ay aa.1.am.length av],.int .i64 aa.2]) (Y1 Tryz.results22 _ _ _ (w.heap.size+1+1+1) 35 _ (0,0) _ rfl (aI.out.row _) rfl Tryz.underlying35 (by kernel_rfl) _ rfl) rfl ?_;exact ZC.put (arr:=#[]) aG.out aI.out (ZY.setRow _ _ _) (size_setRow _ _ _) aT.out (by omega)
