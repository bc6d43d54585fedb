/- T -/
import Derived.Test.YthpngeboknmllaaGreatQ24ea
import Derived.Deep.CutBlock
set_option linter.unusedVariables false
set_option linter.unusedSimpArgs false
set_option maxHeartbeats 16000000
set_option maxRecDepth 100000
namespace Go.Proofs.YthpngeboknmllaaGreat
open Go.RowKit
theorem zLy {w:World} (d:RP) (h:Sb w d) (back:Bool) (nx:Int) (aa:nx=if back then d.o-1 else d.o) :
  (0<=nx/\nx<d.its.length->Yc (Zc d.its nx.toNat).kids 0 (-1)=false->We d.t d.p d.m back=YE d.t d.p d.m [Zf d.q nx [Zc d.its nx.toNat]] (d.q++[nx]) []) /\
  (0<=nx/\nx<d.its.length->Yc (Zc d.its nx.toNat).kids 0 (-1)=true->We d.t d.p d.m back=Xa d.t d.p d.m back) /\
  (¬(0<=nx/\nx<d.its.length)->d.ar=true->Yc d.it.kids 0 d.s=false->We d.t d.p d.m back=YE d.t d.p d.m [⟨4,d.q2,d.i,d.its.length,[Zj d.it d.s.toNat []],d.s,Zz,Zz⟩] (d.q2++[if back then d.i else d.i+d.its.length]) []) /\
  (¬(0<=nx/\nx<d.its.length)->d.ar=true->Yc d.it.kids 0 d.s=true->We d.t d.p d.m back=Xa d.t d.p d.m back) /\
  (¬(0<=nx/\nx<d.its.length)->d.ar=false->We d.t d.p d.m back=Xa d.t d.p d.m back):=by
 have e1:d.p.dropLast=d.q:=by rw[h.pe];simp
 have e2:d.p.getLastD 0=d.o:=by rw[h.pe];simp
 have e3:(ZM d.t d.q).1.kids=d.its:=h.ie.symm;unfold We;simp only[e1,e2,e3,<-aa];refine⟨fun h1 h2=>?_,fun h1 h2=>?_,fun h1 h2 h3=>?_,fun h1 h2 h3=>?_,fun h1 h2=>?_⟩
 ·rw[if_pos h1,if_pos h2];rfl
 ·rw[if_pos h1,if_neg (by rw[h2];decide)]
 ·obtain⟨a1,a2,a3,a4,s',a5,a6,a7⟩:=h.ar1 h2;rw[if_neg h1,a1];simp only;rw[if_pos h3];have hk:(ZZ d.it d.s).kids=d.its:=by rw[Yi (by rw[a5];simpa using a6)];simp only[a5,Int.toNat_natCast];rw[a7];rfl
  unfold YL;simp only[hk];rfl
 ·obtain⟨a1,_⟩:=h.ar1 h2;rw[if_neg h1,a1];simp only;rw[if_neg (by rw[h3];decide)]
 rw[if_neg h1,h.ar0 h2]
theorem zO7 (d:RP) (back:Bool) (w:World) (h:Sb w d) :
  Calls Tryz.prog 49 #[.agg (Vy d),.int .i64 (if back then -1 else 1)] w (ZC w (We d.t d.p d.m back)):=by
 obtain⟨nx,dh⟩:∃nx,nx=if back then d.o-1 else d.o:=⟨_,rfl⟩
 obtain⟨sg,bW⟩:∃sg:Int,sg=if back then -1 else 1:=⟨_,rfl⟩
 obtain⟨fn,di⟩:∃fn,fn=if back then 90 else 89:=⟨_,rfl⟩
 rw[<-bW];obtain⟨SR,cB⟩:∃SR,SR=Wv d.t d.p (if back then -1 else 1):=⟨_,rfl⟩;have HC:=hid (zLy d h back nx dh);have ek:Hid (Xa d.t d.p d.m back=if SR.2≠0 then (ZB,SR.2) else YE d.t d.p d.m [] SR.1 []):=by show _=_;unfold Xa;rw[<-cB];rfl
 have d9:Hid (SR.1.length<=24):=by show _<=_;rw[cB];exact Vz (Tz h).1
 have bA:=hid h;have HF:=hid (Tz h);have eP:=hid h.ar1;have CD:Hid (∀W B ops pos,Below w.heap.size w W->∀w0,BA w0 W B (Vy d) ops pos []->ops.length<=1000->Calls Tryz.prog 48 #[.pointer (some ⟨B,0,none⟩)] W (ZC w0 (YE d.t d.p d.m ops pos []))):=fun W B ops pos hW w0 hb dX=>RD h hW hb dX
 have CS:Hid (∀W,Below w.heap.size w W->Calls Tryz.prog fn #[.agg #[.int .i64 d.t.kind,.string d.t.text,.int .i64 d.t.cols,.slice d.A d.t.kids.length d.cap],.slice d.Ap d.p.length d.cp] W (zIt W SR)):=fun W hW=>by
  rw[cB,di];cases back
  ·have h9:=U2 d.t d.p d.A d.cap _ W (h.bl hW).tk h.tok.2.2 (h.bl hW).p;rw[Tf] at h9;exact h9
  have h9:=Vf d.t d.p d.A d.cap _ W (h.bl hW).tk h.tok.2.2 (h.bl hW).p;rw[Tt] at h9;exact h9
 have HN:=hid dh;have ed:=hid bW;have dO:=hid di;obtain⟨t,A,cap,p,Ap,cp,m,Am,cm,rr,Ar,cr,ra,rb,q,A1,c1,o,its,Ai,ci,ar,q2,A2,c2,i,s,it,A3,c3⟩:=d;simp only[Vy] at *;generalize We t p m back=af at *;generalize Xa t p m back=dZ at *;have v1:IntKind.i64.wrap (o-1)=o-1:=by have:=HF.out;exact IntWalk.i64_in _ (by omega)
 obtain⟨W0,cu⟩:∃W0,(w.alloc (.cells #[.int .i64 t.kind,.string t.text,.int .i64 t.cols,.slice A t.kids.length cap,.slice Ap p.length cp,.slice Am m.length cm,.slice Ar rr.length cr,.int .i64 ra,.int .i64 rb,.slice A1 q.length c1,.int .i64 o,.slice Ai its.length ci,.bool ar,.slice A2 q2.length c2,.int .i64 i,.int .i64 s,.int .i64 it.kind,.string it.text,.int .i64 it.cols,.slice A3 it.kids.length c3] 69)).alloc (.cells #[.slice none 0 0,.slice none 0 0,.slice none 0 0,.slice none 0 0,.slice none 0 0] 35)=W0:=⟨_,rfl⟩;have bg:Hid (Below w.heap.size w W0):=by show Below _ _ _;rw[<-cu];exact Zy (ZW _ _) _
 have bC:Hid (Z5 W0 w.heap.size (.cells #[.int .i64 t.kind,.string t.text,.int .i64 t.cols,.slice A t.kids.length cap,.slice Ap p.length cp,.slice Am m.length cm,.slice Ar rr.length cr,.int .i64 ra,.int .i64 rb,.slice A1 q.length c1,.int .i64 o,.slice Ai its.length ci,.bool ar,.slice A2 q2.length c2,.int .i64 i,.int .i64 s,.int .i64 it.kind,.string it.text,.int .i64 it.cols,.slice A3 it.kids.length c3] 69)):=by show Z5 _ _ _;rw[<-cu];exact(Z5.at0 _ _).al _
 have bM:Hid (Z5 W0 (w.heap.size+1) (.cells #[.slice none 0 0,.slice none 0 0,.slice none 0 0,.slice none 0 0,.slice none 0 0] 35)):=by show Z5 _ _ _;rw[<-cu];exact Z5.at1 _ _ _
 obtain⟨s0,s1,s2,s3,s4,s5,s6,s7,s8,s9,aW,aK,aV,aU,aT,aS,aR,aQ,aP,aO⟩:=zHd bC.out;have i1:decide (sg<0)=back:=by rw[bW];cases back<;>rfl
 clear h dh cB bW di;go_enter Tryz.func49,Tryz.ntmps49
 go_upto_if 16 with fail
 clear cu
 go_cut [6,7] from 13 to 19 (fun n s wx=>n=.int .i64 nx/\s=.func (.func fn) #[] #[]/\wx=W0)
 case first =>
  have h2:=HN.out;have h3:=dO.out;cases back
  ·go_wp2_with fail
   go_meet;simp at h2 h3;exact⟨by rw[h2],by rw[h3],rfl⟩
  go_wp2_with fail
  go_meet;simp at h2 h3;exact⟨by rw[h2],by rw[h3],rfl⟩
 case rest =>
 obtain⟨rfl,rfl,aX⟩:=hcut;rw[aX];clear aX;clear v1 HN
 go_upto_region 5 with fail
 go_cut [8] from 20 to 28 (fun b wx=>b=.bool (decide (0<=nx/\nx<(its.length:Int)))/\wx=W0)
 case first =>
  by_cases h1:0<=nx
  ·have i1:decide (0<=nx)=true:=decide_eq_true h1;by_cases h2:nx<(its.length:Int)
   ·have i2:decide (nx<(its.length:Int))=true:=decide_eq_true h2
    go_wp2_with fail
    go_meet;exact⟨congrArg Value.bool (decide_eq_true (by omega)).symm,rfl⟩
   have i2:decide (nx<(its.length:Int))=false:=decide_eq_false h2
   go_wp2_with fail
   go_meet;exact⟨congrArg Value.bool (decide_eq_false (by omega)).symm,rfl⟩
  have i1:decide (0<=nx)=false:=decide_eq_false h1
  go_wp2_with fail
  go_meet;exact⟨congrArg Value.bool (decide_eq_false (by omega)).symm,rfl⟩
 case rest =>
 obtain⟨rfl,aX⟩:=hcut;rw[aX];clear aX;generalize bP:decide (0<=nx/\nx<(its.length:Int))=bT
 go_upto_block 0 with fail
 go_cut [8] from 29 to 98 (fun _ wx=>Below W0.heap.size W0 wx/\af=dZ)
 case first =>
  rename_i J9 K9 m9 a9;cases bT
  case true =>
   have hA:=of_decide_eq_true bP;obtain⟨k,rfl⟩:∃k:Nat,nx=(k:Int):=⟨nx.toNat,by omega⟩;have hk:k<its.length:=by omega
   have dJ:Zc its (k:Int).toNat=its[k]:=by simp[Zc,hk]
   have hc1:=HC.out.1 hA;have dm:=HC.out.2.1 hA;rw[dJ] at hc1 dm;have eO:=hid hc1;have eH:=hid dm;obtain⟨_,_,rs,hq,dY,him,dG,dI⟩:=(bA.out.bl bg.out).its;cases hq;obtain⟨gx,ox,Bx,bx,dV,rfl,hgx,x0,x1,x2,x3,_,_,_,dD,dC,dF,dH⟩:=YW dG dI hk;have CX:=hid (zIm its[k] Bx bx (-1) W0 ⟨_,_,dV,rfl,dD,dC,dF,dH⟩);obtain⟨Ac,dE,hcut⟩:=Qt Z6 Tryz.underlying22 Vw (some ⟨gx,ox,none⟩) its.length ci (k:Int) ((k:Int)+1) k (k+1) rfl (by omega) (by omega) (by omega) dY;rw[Nat.add_sub_cancel_left] at dE hcut;have dz:Hid (∀W,Below w.heap.size w W->Z8 Z6 W (Lt W.heap.size) [its[k]] (.slice Ac 1 (ci-k))):=fun W hW=>by
    have h9:=hcut W (Lt W.heap.size) its (bA.out.bl hW).its;rwa[show (its.take (k+1)).drop k=[its[k]] by rw[List.drop_take];rw[Nat.add_sub_cancel_left,List.drop_eq_getElem_cons hk];rfl] at h9
   have i0:(0:Int)<=(k:Int):=by omega
   have i1:(k:Int)<(its.length:Int):=by omega
   have i2:(k:Int)<=(k:Int)+1:=by omega
   have i3:(k:Int)+1<=(its.length:Int):=by omega
   have v2:IntKind.i64.wrap ((k:Int)+1)=(k:Int)+1:=by have:=HF.out;exact IntWalk.i64_in _ (by omega)
   have bz:Hid (ZQ [its[k]]<=1000000/\(k:Int)<=1000):=⟨by
    have h1:=WV hk;have h2:=Xx its (k+1);have:=HF.out;simp only[ZQ];omega,by have:=HF.out;omega⟩
   clear hc1 dm dG dI dF dH dD dC hcut HC dJ bP hA;generalize its[k]=x at *;generalize av:Yc x.kids 0 (-1)=b9 at *
   go_wp2_with fail
   refine CX.out.mono ?_;rintro e w5 ⟨rfl,aG⟩;have cO:=hid (bg.out.trans (aG.mono bg.out.size));have aA:=hid (bC.out.below aG);have aN:=hid (bM.out.below aG);have bD:=hid aG;clear aG x0 x1 x2 x3 s0 s1 s2 s3 s4 s5 s6 s7 s8 s9 aW aK aV aU aT aS aR aQ aP aO bC bM CX;obtain⟨s0,s1,s2,s3,s4,s5,s6,s7,s8,s9,aW,aK,aV,aU,aT,aS,aR,aQ,aP,aO⟩:=zHd aA.out;cases b9
   case true =>
    go_wp2_with fail
    go_meet;exact⟨bD.out,eH.out (by trivial)⟩
   case false =>
   clear m9 a9;have au:=hid (eO.out (by trivial));have dU:∀o,(w5.alloc o).cell? ⟨w.heap.size,9,none⟩=some (.slice A1 q.length c1):=fun o=>((ZW w5 o).cell (Y0 s9)).trans s9
   have df:∀o,(w5.alloc o).cell? ⟨w.heap.size,11,none⟩=some (.slice (some ⟨gx,ox,none⟩) its.length ci):=fun o=>((ZW w5 o).cell (Y0 aK)).trans aK
   go_upto_region 7 with fail
   go_region
   obtain⟨wb,bJ⟩:∃wb,(w5.alloc (.cells #[.int .i64 2,.slice A1 q.length c1,.int .i64 (k:Int),.int .i64 0,.slice Ac 1 (ci-k),.int .i64 0,.string ⟨#[]⟩,.string ⟨#[]⟩] 49)).drew=wb:=⟨_,rfl⟩;rw[bJ];have aD:Below w5.heap.size w5 wb:=by rw[<-bJ];exact Below.drew (ZW _ _)
   have eD:Hid (Z5 wb w5.heap.size (.cells #[.int .i64 2,.slice A1 q.length c1,.int .i64 (k:Int),.int .i64 0,.slice Ac 1 (ci-k),.int .i64 0,.string ⟨#[]⟩,.string ⟨#[]⟩] 49)):=by show Z5 _ _ _;rw[<-bJ];exact(Z5.at0 _ _).dr
   have bQ:=hid (aA.out.below aD);have HG:=hid (aN.out.below aD);have ah:=hid (cO.out.trans (aD.mono cO.out.size));have aM:=hid (bA.out.bl ah.out);have HO:Hid (Z0 wb (NF (fun _=>False) wb) q (.slice A1 q.length c1)/\Z8 Z6 wb (NF (fun _=>False) wb) [x] (.slice Ac 1 (ci-k))):=⟨aM.out.q.keep (fun _ _=>rfl) (fun k hk=>⟨hk,id⟩),(dz.out wb ah.out).keep (fun _ _=>rfl) (fun k hk=>⟨hk,id⟩)⟩;have aj:Hid (∀i∈[(k:Int)],Z4 i):=fun i hi=>by rw[List.mem_singleton.1 hi];exact YU (by have:=bz.out;omega)
   have HL:Hid (q.length+[(k:Int)].length<=100000):=by have:=HF.out;show _+1<=_;omega
   have bL:Hid (q.length<=1000000/\ZQ [x]<=1000000):=⟨by have:=HF.out;omega,bz.out.1⟩;have HW:Hid (Below wb.heap.size wb wb):=hid (Qg _ _);have bU:=hid (fun W B (hW:Below wb.heap.size wb W) hb=>(CD.out W B [Zf q (k:Int) [x]] (q++[(k:Int)]) (ah.out.trans (hW.mono ah.out.size)) wb hb (by simp)).mono (fun e w' (h:ZC wb _ e w')=>(by rw[au.out];exact h:ZC wb af e w')));have eF:Hid (w5.heap.size≠w.heap.size+1):=by have:=aN.out.lt;show _≠_;omega
   clear aD bJ dU df i0 i1 i2 i3 v2 dE s0 s1 s2 s3 s4 s5 s6 s7 s8 s9 aW aK aV aU aT aS aR aQ aP aO
   go_upto_region 8 with fail
   refine wp_region_noPanic ?_;refine wp_region_held_drew (S:=fun w'=>ZY (fun k=>k=w.heap.size+1) wb w') (by kernel_rfl) (kwt HW.out) (fun hHeld=>?_);refine wpAnyH_take (i:=0) (oi:=⟨some 50,_,_,_,_,_⟩) (v:=_) rfl (by kernel_rfl) (by kernel_rfl) (by kernel_rfl) (fun _ _ _ h=>h) (Xh 69 (.tmp 2) rfl (by rfl) _ rfl (fun w hS=>hS.obj bQ.out (Nat.ne_of_lt (Nat.lt_succ_self _))) Tryz.underlying69 (by kernel_rfl)) hHeld ?_
   try simp only[qP,qN,qS,qZ,qC]
   refine wpAnyH_take (i:=2) (oi:=⟨some 52,_,_,_,_,_⟩) (v:=_) rfl (by kernel_rfl) (by kernel_rfl) (by kernel_rfl) (fun _ _ _ h=>h) (Xh 49 (.tmp 9) rfl (by rfl) _ rfl (fun w hS=>hS.obj eD.out eF.out) Tryz.underlying49 (by kernel_rfl)) hHeld ?_
   try simp only[qP,qN,qS,qZ,qC]
   refine wpAnyH_take (i:=4) (oi:=⟨some 54,_,_,_,_,_⟩) (v:=_) rfl (by kernel_rfl) (by kernel_rfl) (by kernel_rfl) (fun _ _ _ h=>h) (Or.inl ⟨by rfl,fun w hS=>by clear hS;go_simp;try with_reducible rfl⟩) hHeld ?_
   try simp only[qP,qN,qS,qZ,qC]
   refine wpAnyH_take (i:=5) (oi:=⟨some 55,_,_,_,_,_⟩) (v:=_) rfl (by kernel_rfl) (by kernel_rfl) (by kernel_rfl) (fun _ _ _ h=>h) (Or.inl ⟨by rfl,fun W hS=>by have h:W.cell? ⟨w.heap.size,9,none⟩=some (.slice A1 q.length c1):=(hS.obj bQ.out (Nat.ne_of_lt (Nat.lt_succ_self _))).cell 9;clear hS;go_simp;try with_reducible rfl⟩) hHeld ?_
   try simp only[qP,qN,qS,qZ,qC]
   refine wpAnyH_take (i:=6) (oi:=⟨some 56,_,_,_,_,_⟩) (v:=_) rfl (by kernel_rfl) (by kernel_rfl) (by kernel_rfl) (fun _ _ _ h=>h) (Or.inl ⟨by rfl,fun w hS=>by clear hS;go_simp;try with_reducible rfl⟩) hHeld ?_
   try simp only[qP,qN,qS,qZ,qC]
   refine wpAnyH_ready (rs:=[1,7]) (by kernel_rfl) (by simp) ?_;refine(AllReadyH.cons (o:=⟨some 51,_,_,_,_,_⟩) rfl (fun K hK=>?_) (AllReadyH.cons (o:=⟨some 57,_,_,_,_,_⟩) rfl (fun K hK=>?_) AllReadyH.nil));go_simp;refine Calls.mono (Wx _ _ _ _ _ _ _ _ _ _ _ _ _ _ _ _ _ _ _ _ wb _ (bwt HW.out)) ?_;rintro e wk ⟨B,F,rfl,aa,ae⟩
   try have HO:=hid (Qh (ae.keep (Zv bw HO.out.1)) (ae.keep (Zv bw HO.out.2)))
   try have HR:=hid (YX.keep ae (Zv bw HR.out))
   have HB:=hid aa;have ax:=HB;have HW:=hid aa.below;clear ae aa;refine hK.out _ _ (kwt HW.out) (fun hHeld=>?_);clear hK K
   try simp only[qP,qN,qS,qZ,qC]
   refine wpAnyH_ready (rs:=[3,7]) (by kernel_rfl) (by simp) ?_;refine(AllReadyH.cons (o:=⟨some 53,_,_,_,_,_⟩) rfl (fun K hK=>?_) (AllReadyH.cons (o:=⟨some 57,_,_,_,_,_⟩) rfl (fun K hK=>?_) AllReadyH.nil));go_simp;refine Calls.mono (XO (HB.out.bl bw) (Zf q (k:Int) [x]) _ _ _ _ (by simp) (YZ (Zv bw HO.out.1)) (YZ (Zv bw HO.out.2)) bL.out.1 bL.out.2 (by simp[Zf,Z4]) (aj.out _ (List.mem_singleton.2 rfl)) (by simp[Zf,Z4]) (by simp[Zf,Z4]) (Qj _) (Qj _)) ?_;rintro e wk ⟨F,rfl,aa,ae⟩
   try have HR:=hid (YX.keep ae (Zv bw HR.out))
   have HB:=hid aa;have ax:=HB;have HW:=hid aa.below;clear ae aa;refine hK.out _ _ (kwt HW.out) (fun hHeld=>?_);clear hK K
   try simp only[qP,qN,qS,qZ,qC]
   refine wpAnyH_ready (rs:=[7]) (by kernel_rfl) (by simp) ?_;refine(AllReadyH.cons (o:=⟨some 57,_,_,_,_,_⟩) rfl (fun K hK=>?_) AllReadyH.nil);go_simp;refine hK.out _ _ (kwt HW.out) (fun hHeld=>?_);clear hK K
   try simp only[qP,qN,qS,qZ,qC]
   refine wpAnyH_ready (rs:=[8]) (by kernel_rfl) (by simp) ?_;refine(AllReadyH.cons (o:=⟨some 58,_,_,_,_,_⟩) rfl (fun K hK=>?_) AllReadyH.nil);go_simp;refine Calls.mono (XN (HB.out.bl bw) q [(k:Int)] _ _ _ _ (aM.out.q.below (bwt HW.out) (bwt HW.out).size) (TZ _ [(k:Int)] _ (aj.out) (by simp[maxLen])) (HL.out)) ?_;rintro e wk ⟨rfl,ag⟩;have HB:=hid ag;have HW:=hid ag.below;clear ag;refine hK.out _ _ (kwt HW.out) (fun hHeld=>?_);clear hK K
   try simp only[qP,qN,qS,qZ,qC]
   rotate_left;go_simp;refine hK.out _ _ (kwt HW.out) (fun hHeld=>?_);clear hK K
   try simp only[qP,qN,qS,qZ,qC]
   refine wpAnyH_ready (rs:=[3]) (by kernel_rfl) (by simp) ?_;refine(AllReadyH.cons (o:=⟨some 53,_,_,_,_,_⟩) rfl (fun K hK=>?_) AllReadyH.nil);go_simp;refine Calls.mono (XO (HB.out.bl bw) (Zf q (k:Int) [x]) _ _ _ _ (by simp) (YZ (Zv bw HO.out.1)) (YZ (Zv bw HO.out.2)) bL.out.1 bL.out.2 (by simp[Zf,Z4]) (aj.out _ (List.mem_singleton.2 rfl)) (by simp[Zf,Z4]) (by simp[Zf,Z4]) (Qj _) (Qj _)) ?_;rintro e wk ⟨F,rfl,aa,ae⟩;have HR:=hid (Ty [(k:Int)] (aj.out) (by simp[maxLen]) ((BS.bl ax.out bw).hi) ae);have HB:=hid aa;have ax:=HB;have HW:=hid aa.below;clear ae aa;refine hK.out _ _ (kwt HW.out) (fun hHeld=>?_);clear hK K
   try simp only[qP,qN,qS,qZ,qC]
   refine wpAnyH_ready (rs:=[8]) (by kernel_rfl) (by simp) ?_;refine(AllReadyH.cons (o:=⟨some 58,_,_,_,_,_⟩) rfl (fun K hK=>?_) AllReadyH.nil);go_simp;refine Calls.mono (XN (HB.out.bl bw) q [(k:Int)] _ _ _ _ (aM.out.q.below (bwt HW.out) (bwt HW.out).size) (YZ (Zv bw HR.out)) (HL.out)) ?_;rintro e wk ⟨rfl,ag⟩;have HB:=hid ag;have HW:=hid ag.below;clear ag;refine hK.out _ _ (kwt HW.out) (fun hHeld=>?_);clear hK K
   try simp only[qP,qN,qS,qZ,qC]
   rotate_left;go_simp;refine hK.out _ _ (kwt HW.out) (fun hHeld=>?_);clear hK K
   try simp only[qP,qN,qS,qZ,qC]
   refine wpAnyH_ready (rs:=[1]) (by kernel_rfl) (by simp) ?_;refine(AllReadyH.cons (o:=⟨some 51,_,_,_,_,_⟩) rfl (fun K hK=>?_) AllReadyH.nil);go_simp;refine Calls.mono (Wx _ _ _ _ _ _ _ _ _ _ _ _ _ _ _ _ _ _ _ _ wb _ (bwt HW.out)) ?_;rintro e wk ⟨B,F,rfl,aa,ae⟩
   try have HO:=hid (Qh (ae.keep (Zv bw HO.out.1)) (ae.keep (Zv bw HO.out.2)))
   have HR:=hid (zJ6 [(k:Int)] (aj.out) (by simp[maxLen]) (fun _ h=>False.elim h) ae);have HB:=hid aa;have ax:=HB;have HW:=hid aa.below;clear ae aa;refine hK.out _ _ (kwt HW.out) (fun hHeld=>?_);clear hK K
   try simp only[qP,qN,qS,qZ,qC]
   refine wpAnyH_ready (rs:=[3]) (by kernel_rfl) (by simp) ?_;refine(AllReadyH.cons (o:=⟨some 53,_,_,_,_,_⟩) rfl (fun K hK=>?_) AllReadyH.nil);go_simp;refine Calls.mono (XO (HB.out.bl bw) (Zf q (k:Int) [x]) _ _ _ _ (by simp) (YZ (Zv bw HO.out.1)) (YZ (Zv bw HO.out.2)) bL.out.1 bL.out.2 (by simp[Zf,Z4]) (aj.out _ (List.mem_singleton.2 rfl)) (by simp[Zf,Z4]) (by simp[Zf,Z4]) (Qj _) (Qj _)) ?_;rintro e wk ⟨F,rfl,aa,ae⟩
   try have HR:=hid (YX.keep ae (Zv bw HR.out))
   have HB:=hid aa;have ax:=HB;have HW:=hid aa.below;clear ae aa;refine hK.out _ _ (kwt HW.out) (fun hHeld=>?_);clear hK K
   try simp only[qP,qN,qS,qZ,qC]
   refine wpAnyH_ready (rs:=[8]) (by kernel_rfl) (by simp) ?_;refine(AllReadyH.cons (o:=⟨some 58,_,_,_,_,_⟩) rfl (fun K hK=>?_) AllReadyH.nil);go_simp;refine Calls.mono (XN (HB.out.bl bw) q [(k:Int)] _ _ _ _ (aM.out.q.below (bwt HW.out) (bwt HW.out).size) (YZ (Zv bw HR.out)) (HL.out)) ?_;rintro e wk ⟨rfl,ag⟩;have HB:=hid ag;have HW:=hid ag.below;clear ag;refine hK.out _ _ (kwt HW.out) (fun hHeld=>?_);clear hK K
   try simp only[qP,qN,qS,qZ,qC]
   rotate_left
   all_goals
    refine wpAnyH_ready (rs:=[9]) (by kernel_rfl) (by simp) ?_;refine(AllReadyH.cons (o:=⟨some 59,_,_,_,_,_⟩) rfl (fun K hK=>?_) AllReadyH.nil);go_simp;refine Calls.mono (bU.out _ _ (bwt HW.out) (HB.out.bl bw)) ?_;rintro e wk ak;have aH:=hid ak;obtain⟨bH,bq,bG,bn,bI,bu,aB,ay,aC,az,rfl,_,_,_,_,_,aF⟩:=ak;have HW:=hid aF;have aJ:=hid (HG.out.below aF);clear aF;refine hK.out _ _ (kwt HW.out) (fun hHeld=>?_);clear hK K
    try simp only[qP,qN,qS,qZ,qC]
    refine wpAnyH_take (i:=10) (oi:=⟨some 60,_,_,_,_,_⟩) (v:=_) rfl (by kernel_rfl) (by kernel_rfl) (by kernel_rfl) (fun _ _ _ h=>h) (Or.inl ⟨by rfl,fun w hS=>by clear hS;go_simp;try with_reducible rfl⟩) hHeld ?_
    try simp only[qP,qN,qS,qZ,qC]
    refine wpAnyH_take (i:=11) (oi:=⟨some 61,_,_,_,_,_⟩) (v:=_) rfl (by kernel_rfl) (by kernel_rfl) (by kernel_rfl) (fun _ _ _ h=>h) (Or.inl ⟨by rfl,fun w hS=>by clear hS;go_simp;try with_reducible rfl⟩) hHeld ?_
    try simp only[qP,qN,qS,qZ,qC]
    refine wpAnyH_ready (rs:=[12]) (by kernel_rfl) (by simp) ?_;refine(AllReadyH.cons (o:=⟨none,_,_,_,_,_⟩) rfl (fun K hK=>?_) AllReadyH.nil);rw[if_pos (by rfl)];refine wp_store_row 35 (.tmp 4) (.tmp 60) rfl (w.heap.size+1) #[.slice bH af.1.ops.length bq,.slice bG af.1.bp.length bn,.slice bI af.1.bm.length bu,.slice aB af.1.ap.length ay,.slice aC af.1.am.length az] rfl rfl 35 _ aJ.out (by kernel_rfl) (by simp) (by simp[Value.oneCell']) ?_;refine Rx aJ.out (fun X9 aL=>?_);refine hK.out _ _ ((kwt HW.out).trans' aL.out.1) (fun hHeld=>?_);clear hK K
    try simp only[qP,qN,qS,qZ,qC]
    refine wpAnyH_take (i:=13) (oi:=⟨some 5,_,_,_,_,_⟩) (v:=_) rfl (by kernel_rfl) (by kernel_rfl) (by kernel_rfl) (fun _ _ _ h=>h) (Or.inl ⟨by rfl,fun w hS=>by clear hS;go_simp;try with_reducible rfl⟩) hHeld ?_
    try simp only[qP,qN,qS,qZ,qC]
    refine wpAnyH_done (by kernel_rfl) ?_ _;refine NoPanic.normal ?_
   all_goals
    refine(‹∀(a:Act) (cZ:World),Code.wp Tryz.prog Code.ret (Exit.inBlock 0 (Exit.then K9 (bodyPost Tryz.prog Tryz.f49 (ZC w af)))) a cZ->_›) _ _ (wp_ret ?_);refine bodyPost_ret (v:=.tuple #[.agg #[.slice bH af.1.ops.length bq,.slice bG af.1.bp.length bn,.slice bI af.1.bm.length bu,.slice aB af.1.ap.length ay,.slice aC af.1.am.length az],.int .i64 af.2]) (Y1 Tryz.results49 _ _ _ (w.heap.size+1) 35 _ (0,0) _ rfl aL.out.2.1 rfl Tryz.underlying35 (by kernel_rfl) _ rfl) rfl ?_;exact ZC.put (arr:=#[]) aH.out aJ.out aL.out.1 aL.out.2.2 ah.out (Nat.le_succ _)
  case false =>
   have hA:=of_decide_eq_false bP;clear bP;cases ar
   case false =>
    have eu:=hid (HC.out.2.2.2.2 hA rfl);clear HC hA
    go_wp2_with fail
    go_meet;exact⟨Qg _ _,eu.out⟩
   case true =>
   obtain⟨a1,dB,a3,a4,s',rfl,a6,a7⟩:=eP.out rfl;have bY:=HC.out.2.2.1 hA rfl;have dL:=HC.out.2.2.2.1 hA rfl;rw[Int.toNat_natCast] at bY;have dP:=hid bY;have eG:=hid dL;have CX:=hid (zIm it A3 c3 (s':Int) W0 (bA.out.bl bg.out).it);have dw:Hid (∀W,Below w.heap.size w W->∀wb,Below wb.heap.size wb W->Below w.heap.size w wb->Calls Tryz.prog 56 #[.agg #[.int .i64 t.kind,.string t.text,.int .i64 t.cols,.slice A t.kids.length cap,.slice Ap p.length cp,.slice Am m.length cm,.slice Ar rr.length cr,.int .i64 ra,.int .i64 rb,.slice A1 q.length c1,.int .i64 o,.slice Ai its.length ci,.bool true,.slice A2 q2.length c2,.int .i64 i,.int .i64 (s':Int),.int .i64 it.kind,.string it.text,.int .i64 it.cols,.slice A3 it.kids.length c3]] W (OpP (Lt wb.heap.size) W ⟨4,q2,i,its.length,[Zj it s' []],(s':Int),Zz,Zz⟩)):=fun W hW wb hb bJ =>
    zU3 (Lt wb.heap.size) it its q2 i s' A2 A3 c2 c3 _ _ _ _ _ _ _ _ _ _ _ _ _ W (bA.out.bl hW).it dB (by omega) ((bA.out.bl bJ).q2.keep (fun r hr=>hb.cell hr) (fun k hk=>⟨Qk hk hb.size,hk⟩)) a6 a7
   have bz:Hid (ZQ [Zj it s' []]<=1000000):=by
    have h9:=zEm it s' (Z7 []) 1 (fun _=>by show 1+0<=_;omega);show ZR (Y3 it s' (Z7 []))+0<=_;omega
   have aI:Hid (0<=i/\i<=1000/\q2.length<=90000):=HF.out.2.2.2.2.2.2.2.1 rfl;have cK:Hid (0<=(s':Int)/\(s':Int)<=1000):=⟨by omega,by have:=XW it;omega⟩;obtain⟨ai,dn⟩:∃ai,ai=if back then i else i+its.length:=⟨_,rfl⟩
   rw[<-dn] at bY dP;have dQ:=hid dn;have aj:Hid (∀i∈[ai],Z4 i):=fun j hj=>by rw[List.mem_singleton.1 hj,dQ.out];have:=aI.out;have:=HF.out;cases back<;>exact YU (by simp<;>omega)
   have j1:decide (0<sg) = !back:=by rw[ed.out];cases back<;>rfl
   have v2:IntKind.i64.wrap (i+(its.length:Int))=i+(its.length:Int):=by have:=HF.out;have:=aI.out;exact IntWalk.i64_in _ (by omega)
   clear bY dL hA HC a1 a3 a4 a6 a7 dB dn;generalize av:Yc it.kids 0 (s':Int)=b9 at *
   go_wp2_with fail
   refine CX.out.mono ?_;rintro e w5 ⟨rfl,aG⟩;have cO:=hid (bg.out.trans (aG.mono bg.out.size));have aA:=hid (bC.out.below aG);have aN:=hid (bM.out.below aG);have bD:=hid aG;clear aG s0 s1 s2 s3 s4 s5 s6 s7 s8 s9 aW aK aV aU aT aS aR aQ aP aO bC bM CX;obtain⟨s0,s1,s2,s3,s4,s5,s6,s7,s8,s9,aW,aK,aV,aU,aT,aS,aR,aQ,aP,aO⟩:=zHd aA.out;cases b9
   case true =>
    go_wp2_with fail
    go_meet;exact⟨bD.out,eG.out (by trivial)⟩
   case false =>
   clear m9 a9;have au:=hid (dP.out (by trivial));have ah:=cO;have HG:=aN;have aM:=hid (bA.out.bl ah.out);have HL:Hid (q2.length+[ai].length<=100000):=by have:=aI.out;show _+1<=_;omega
   have HW:Hid (Below w5.heap.size w5 w5):=hid (Qg _ _);have bU:=hid (fun W B (hW:Below w5.heap.size w5 W) hb=>(CD.out W B [⟨4,q2,i,its.length,[Zj it s' []],(s':Int),Zz,Zz⟩] (q2++[ai]) (ah.out.trans (hW.mono ah.out.size)) w5 hb (by simp)).mono (fun e w' (h:ZC w5 _ e w')=>(by rw[au.out];exact h:ZC w5 af e w')))
   go_upto_if 80 with fail
   go_cut [10] from 77 to 85 (fun v wx=>v=.int .i64 ai/\wx=w5)
   case first =>
    have h2:=dQ.out;cases back
    ·go_wp2_with fail
     go_meet;simp at h2;exact⟨by rw[h2],rfl⟩
    go_wp2_with fail
    go_meet;simp at h2;exact⟨by rw[h2],rfl⟩
   case rest =>
   obtain⟨rfl,aX⟩:=hcut;rw[aX];clear aX v2 j1
   go_upto_region 13 with fail
   refine wp_region_noPanic ?_;refine wp_region_held_drew (S:=fun w'=>ZY (fun k=>k=w.heap.size+1) w5 w') (by kernel_rfl) (kwt HW.out) (fun hHeld=>?_);refine wpAnyH_take (i:=0) (oi:=⟨some 86,_,_,_,_,_⟩) (v:=_) rfl (by kernel_rfl) (by kernel_rfl) (by kernel_rfl) (fun _ _ _ h=>h) (Xh 69 (.tmp 2) rfl (by rfl) _ rfl (fun w hS=>hS.obj aA.out (Nat.ne_of_lt (Nat.lt_succ_self _))) Tryz.underlying69 (by kernel_rfl)) hHeld ?_
   try simp only[qP,qN,qS,qZ,qC]
   refine wpAnyH_take (i:=2) (oi:=⟨some 88,_,_,_,_,_⟩) (v:=_) rfl (by kernel_rfl) (by kernel_rfl) (by kernel_rfl) (fun _ _ _ h=>h) (Xh 69 (.tmp 2) rfl (by rfl) _ rfl (fun w hS=>hS.obj aA.out (Nat.ne_of_lt (Nat.lt_succ_self _))) Tryz.underlying69 (by kernel_rfl)) hHeld ?_
   try simp only[qP,qN,qS,qZ,qC]
   refine wpAnyH_take (i:=5) (oi:=⟨some 91,_,_,_,_,_⟩) (v:=_) rfl (by kernel_rfl) (by kernel_rfl) (by kernel_rfl) (fun _ _ _ h=>h) (Or.inl ⟨by rfl,fun w hS=>by clear hS;go_simp;try with_reducible rfl⟩) hHeld ?_
   try simp only[qP,qN,qS,qZ,qC]
   refine wpAnyH_take (i:=6) (oi:=⟨some 92,_,_,_,_,_⟩) (v:=_) rfl (by kernel_rfl) (by kernel_rfl) (by kernel_rfl) (fun _ _ _ h=>h) (Or.inl ⟨by rfl,fun W hS=>by have h:W.cell? ⟨w.heap.size,13,none⟩=some (.slice A2 q2.length c2):=(hS.obj aA.out (Nat.ne_of_lt (Nat.lt_succ_self _))).cell 13;clear hS;go_simp;try with_reducible rfl⟩) hHeld ?_
   try simp only[qP,qN,qS,qZ,qC]
   refine wpAnyH_take (i:=7) (oi:=⟨some 93,_,_,_,_,_⟩) (v:=_) rfl (by kernel_rfl) (by kernel_rfl) (by kernel_rfl) (fun _ _ _ h=>h) (Or.inl ⟨by rfl,fun w hS=>by clear hS;go_simp;try with_reducible rfl⟩) hHeld ?_
   try simp only[qP,qN,qS,qZ,qC]
   refine wpAnyH_ready (rs:=[1,8]) (by kernel_rfl) (by simp) ?_;refine(AllReadyH.cons (o:=⟨some 87,_,_,_,_,_⟩) rfl (fun K hK=>?_) (AllReadyH.cons (o:=⟨some 94,_,_,_,_,_⟩) rfl (fun K hK=>?_) AllReadyH.nil));go_simp;refine Calls.mono (Wx _ _ _ _ _ _ _ _ _ _ _ _ _ _ _ _ _ _ _ _ w5 _ (bwt HW.out)) ?_;rintro e wk ⟨B,F,rfl,aa,ae⟩
   try have HO:=hid (Qh (ae.keep (Zv bw HO.out.1)) (ae.keep (Zv bw HO.out.2)))
   try have HR:=hid (YX.keep ae (Zv bw HR.out))
   have HB:=hid aa;have ax:=HB;have HW:=hid aa.below;clear ae aa;refine hK.out _ _ (kwt HW.out) (fun hHeld=>?_);clear hK K
   try simp only[qP,qN,qS,qZ,qC]
   refine wpAnyH_ready (rs:=[3,8]) (by kernel_rfl) (by simp) ?_;refine(AllReadyH.cons (o:=⟨some 89,_,_,_,_,_⟩) rfl (fun K hK=>?_) (AllReadyH.cons (o:=⟨some 94,_,_,_,_,_⟩) rfl (fun K hK=>?_) AllReadyH.nil));go_simp;refine Calls.mono (dw.out _ (ah.out.trans ((bwt HW.out).mono ah.out.size)) w5 (bwt HW.out) ah.out) ?_;rintro e wk ⟨dR,dM,dS,dN,rfl,aY,aZ,av⟩;have HO:=hid (Qh (VV HB.out.lo (BS.bl HB.out bw).hi aY) (VV HB.out.lo (BS.bl HB.out bw).hi aZ))
   try have HR:=hid (YX.keep (YX.of_bl av) (Zv bw HR.out))
   have HB:=hid (BS.bl (BS.bl HB.out bw) av);have ax:=HB;have HW:=hid ((bwt HW.out).trans (av.mono (bwt HW.out).size));clear aY aZ av;refine hK.out _ _ (kwt HW.out) (fun hHeld=>?_);clear hK K
   try simp only[qP,qN,qS,qZ,qC]
   refine wpAnyH_ready (rs:=[4,8]) (by kernel_rfl) (by simp) ?_;refine(AllReadyH.cons (o:=⟨some 90,_,_,_,_,_⟩) rfl (fun K hK=>?_) (AllReadyH.cons (o:=⟨some 94,_,_,_,_,_⟩) rfl (fun K hK=>?_) AllReadyH.nil));go_simp;refine Calls.mono (XO (HB.out.bl bw) ⟨4,q2,i,its.length,[Zj it s' []],(s':Int),Zz,Zz⟩ _ _ _ _ (by simp) (YZ (Zv bw HO.out.1)) (YZ (Zv bw HO.out.2)) (by have:=aI.out;show q2.length<=_;omega) bz.out (by simp[Z4]) (YU (by have:=aI.out;show _<=i/\i<=_;omega)) (YU (by have:=HF.out;show _<=(its.length:Int)/\(its.length:Int)<=_;omega)) (YU (by have:=cK.out;show _<=(s':Int)/\(s':Int)<=_;omega)) (Qj _) (Qj _)) ?_;rintro e wk ⟨F,rfl,aa,ae⟩
   try have HR:=hid (YX.keep ae (Zv bw HR.out))
   have HB:=hid aa;have ax:=HB;have HW:=hid aa.below;clear ae aa;refine hK.out _ _ (kwt HW.out) (fun hHeld=>?_);clear hK K
   try simp only[qP,qN,qS,qZ,qC]
   refine wpAnyH_ready (rs:=[8]) (by kernel_rfl) (by simp) ?_;refine(AllReadyH.cons (o:=⟨some 94,_,_,_,_,_⟩) rfl (fun K hK=>?_) AllReadyH.nil);go_simp;refine hK.out _ _ (kwt HW.out) (fun hHeld=>?_);clear hK K
   try simp only[qP,qN,qS,qZ,qC]
   refine wpAnyH_ready (rs:=[9]) (by kernel_rfl) (by simp) ?_;refine(AllReadyH.cons (o:=⟨some 95,_,_,_,_,_⟩) rfl (fun K hK=>?_) AllReadyH.nil);go_simp;refine Calls.mono (XN (HB.out.bl bw) q2 [ai] _ _ _ _ (aM.out.q2.below (bwt HW.out) (bwt HW.out).size) (TZ _ [ai] _ (aj.out) (by simp[maxLen])) (HL.out)) ?_;rintro e wk ⟨rfl,ag⟩;have HB:=hid ag;have HW:=hid ag.below;clear ag;refine hK.out _ _ (kwt HW.out) (fun hHeld=>?_);clear hK K
   try simp only[qP,qN,qS,qZ,qC]
   rotate_left;go_simp;refine hK.out _ _ (kwt HW.out) (fun hHeld=>?_);clear hK K
   try simp only[qP,qN,qS,qZ,qC]
   refine wpAnyH_ready (rs:=[4]) (by kernel_rfl) (by simp) ?_;refine(AllReadyH.cons (o:=⟨some 90,_,_,_,_,_⟩) rfl (fun K hK=>?_) AllReadyH.nil);go_simp;refine Calls.mono (XO (HB.out.bl bw) ⟨4,q2,i,its.length,[Zj it s' []],(s':Int),Zz,Zz⟩ _ _ _ _ (by simp) (YZ (Zv bw HO.out.1)) (YZ (Zv bw HO.out.2)) (by have:=aI.out;show q2.length<=_;omega) bz.out (by simp[Z4]) (YU (by have:=aI.out;show _<=i/\i<=_;omega)) (YU (by have:=HF.out;show _<=(its.length:Int)/\(its.length:Int)<=_;omega)) (YU (by have:=cK.out;show _<=(s':Int)/\(s':Int)<=_;omega)) (Qj _) (Qj _)) ?_;rintro e wk ⟨F,rfl,aa,ae⟩;have HR:=hid (Ty [ai] (aj.out) (by simp[maxLen]) ((BS.bl ax.out bw).hi) ae);have HB:=hid aa;have ax:=HB;have HW:=hid aa.below;clear ae aa;refine hK.out _ _ (kwt HW.out) (fun hHeld=>?_);clear hK K
   try simp only[qP,qN,qS,qZ,qC]
   refine wpAnyH_ready (rs:=[9]) (by kernel_rfl) (by simp) ?_;refine(AllReadyH.cons (o:=⟨some 95,_,_,_,_,_⟩) rfl (fun K hK=>?_) AllReadyH.nil);go_simp;refine Calls.mono (XN (HB.out.bl bw) q2 [ai] _ _ _ _ (aM.out.q2.below (bwt HW.out) (bwt HW.out).size) (YZ (Zv bw HR.out)) (HL.out)) ?_;rintro e wk ⟨rfl,ag⟩;have HB:=hid ag;have HW:=hid ag.below;clear ag;refine hK.out _ _ (kwt HW.out) (fun hHeld=>?_);clear hK K
   try simp only[qP,qN,qS,qZ,qC]
   rotate_left;go_simp;refine hK.out _ _ (kwt HW.out) (fun hHeld=>?_);clear hK K
   try simp only[qP,qN,qS,qZ,qC]
   refine wpAnyH_ready (rs:=[3]) (by kernel_rfl) (by simp) ?_;refine(AllReadyH.cons (o:=⟨some 89,_,_,_,_,_⟩) rfl (fun K hK=>?_) AllReadyH.nil);go_simp;refine Calls.mono (dw.out _ (ah.out.trans ((bwt HW.out).mono ah.out.size)) w5 (bwt HW.out) ah.out) ?_;rintro e wk ⟨dR,dM,dS,dN,rfl,aY,aZ,av⟩;have HO:=hid (Qh (VV HB.out.lo (BS.bl HB.out bw).hi aY) (VV HB.out.lo (BS.bl HB.out bw).hi aZ));have HR:=hid (Ty [ai] (aj.out) (by simp[maxLen]) ((BS.bl ax.out bw).hi) (YX.of_bl av));have HB:=hid (BS.bl (BS.bl HB.out bw) av);have ax:=HB;have HW:=hid ((bwt HW.out).trans (av.mono (bwt HW.out).size));clear aY aZ av;refine hK.out _ _ (kwt HW.out) (fun hHeld=>?_);clear hK K
   try simp only[qP,qN,qS,qZ,qC]
   refine wpAnyH_ready (rs:=[4]) (by kernel_rfl) (by simp) ?_;refine(AllReadyH.cons (o:=⟨some 90,_,_,_,_,_⟩) rfl (fun K hK=>?_) AllReadyH.nil);go_simp;refine Calls.mono (XO (HB.out.bl bw) ⟨4,q2,i,its.length,[Zj it s' []],(s':Int),Zz,Zz⟩ _ _ _ _ (by simp) (YZ (Zv bw HO.out.1)) (YZ (Zv bw HO.out.2)) (by have:=aI.out;show q2.length<=_;omega) bz.out (by simp[Z4]) (YU (by have:=aI.out;show _<=i/\i<=_;omega)) (YU (by have:=HF.out;show _<=(its.length:Int)/\(its.length:Int)<=_;omega)) (YU (by have:=cK.out;show _<=(s':Int)/\(s':Int)<=_;omega)) (Qj _) (Qj _)) ?_;rintro e wk ⟨F,rfl,aa,ae⟩
   try have HR:=hid (YX.keep ae (Zv bw HR.out))
   have HB:=hid aa;have ax:=HB;have HW:=hid aa.below;clear ae aa;refine hK.out _ _ (kwt HW.out) (fun hHeld=>?_);clear hK K
   try simp only[qP,qN,qS,qZ,qC]
   refine wpAnyH_ready (rs:=[9]) (by kernel_rfl) (by simp) ?_;refine(AllReadyH.cons (o:=⟨some 95,_,_,_,_,_⟩) rfl (fun K hK=>?_) AllReadyH.nil);go_simp;refine Calls.mono (XN (HB.out.bl bw) q2 [ai] _ _ _ _ (aM.out.q2.below (bwt HW.out) (bwt HW.out).size) (YZ (Zv bw HR.out)) (HL.out)) ?_;rintro e wk ⟨rfl,ag⟩;have HB:=hid ag;have HW:=hid ag.below;clear ag;refine hK.out _ _ (kwt HW.out) (fun hHeld=>?_);clear hK K
   try simp only[qP,qN,qS,qZ,qC]
   rotate_left;go_simp;refine hK.out _ _ (kwt HW.out) (fun hHeld=>?_);clear hK K
   try simp only[qP,qN,qS,qZ,qC]
   refine wpAnyH_ready (rs:=[1]) (by kernel_rfl) (by simp) ?_;refine(AllReadyH.cons (o:=⟨some 87,_,_,_,_,_⟩) rfl (fun K hK=>?_) AllReadyH.nil);go_simp;refine Calls.mono (Wx _ _ _ _ _ _ _ _ _ _ _ _ _ _ _ _ _ _ _ _ w5 _ (bwt HW.out)) ?_;rintro e wk ⟨B,F,rfl,aa,ae⟩
   try have HO:=hid (Qh (ae.keep (Zv bw HO.out.1)) (ae.keep (Zv bw HO.out.2)))
   have HR:=hid (zJ6 [ai] (aj.out) (by simp[maxLen]) (fun _ h=>False.elim h) ae);have HB:=hid aa;have ax:=HB;have HW:=hid aa.below;clear ae aa;refine hK.out _ _ (kwt HW.out) (fun hHeld=>?_);clear hK K
   try simp only[qP,qN,qS,qZ,qC]
   refine wpAnyH_ready (rs:=[3]) (by kernel_rfl) (by simp) ?_;refine(AllReadyH.cons (o:=⟨some 89,_,_,_,_,_⟩) rfl (fun K hK=>?_) AllReadyH.nil);go_simp;refine Calls.mono (dw.out _ (ah.out.trans ((bwt HW.out).mono ah.out.size)) w5 (bwt HW.out) ah.out) ?_;rintro e wk ⟨dR,dM,dS,dN,rfl,aY,aZ,av⟩;have HO:=hid (Qh (VV HB.out.lo (BS.bl HB.out bw).hi aY) (VV HB.out.lo (BS.bl HB.out bw).hi aZ))
   try have HR:=hid (YX.keep (YX.of_bl av) (Zv bw HR.out))
   have HB:=hid (BS.bl (BS.bl HB.out bw) av);have ax:=HB;have HW:=hid ((bwt HW.out).trans (av.mono (bwt HW.out).size));clear aY aZ av;refine hK.out _ _ (kwt HW.out) (fun hHeld=>?_);clear hK K
   try simp only[qP,qN,qS,qZ,qC]
   refine wpAnyH_ready (rs:=[4]) (by kernel_rfl) (by simp) ?_;refine(AllReadyH.cons (o:=⟨some 90,_,_,_,_,_⟩) rfl (fun K hK=>?_) AllReadyH.nil);go_simp;refine Calls.mono (XO (HB.out.bl bw) ⟨4,q2,i,its.length,[Zj it s' []],(s':Int),Zz,Zz⟩ _ _ _ _ (by simp) (YZ (Zv bw HO.out.1)) (YZ (Zv bw HO.out.2)) (by have:=aI.out;show q2.length<=_;omega) bz.out (by simp[Z4]) (YU (by have:=aI.out;show _<=i/\i<=_;omega)) (YU (by have:=HF.out;show _<=(its.length:Int)/\(its.length:Int)<=_;omega)) (YU (by have:=cK.out;show _<=(s':Int)/\(s':Int)<=_;omega)) (Qj _) (Qj _)) ?_;rintro e wk ⟨F,rfl,aa,ae⟩
   try have HR:=hid (YX.keep ae (Zv bw HR.out))
   have HB:=hid aa;have ax:=HB;have HW:=hid aa.below;clear ae aa;refine hK.out _ _ (kwt HW.out) (fun hHeld=>?_);clear hK K
   try simp only[qP,qN,qS,qZ,qC]
   refine wpAnyH_ready (rs:=[9]) (by kernel_rfl) (by simp) ?_;refine(AllReadyH.cons (o:=⟨some 95,_,_,_,_,_⟩) rfl (fun K hK=>?_) AllReadyH.nil);go_simp;refine Calls.mono (XN (HB.out.bl bw) q2 [ai] _ _ _ _ (aM.out.q2.below (bwt HW.out) (bwt HW.out).size) (YZ (Zv bw HR.out)) (HL.out)) ?_;rintro e wk ⟨rfl,ag⟩;have HB:=hid ag;have HW:=hid ag.below;clear ag;refine hK.out _ _ (kwt HW.out) (fun hHeld=>?_);clear hK K
   try simp only[qP,qN,qS,qZ,qC]
   rotate_left
   all_goals
    refine wpAnyH_ready (rs:=[10]) (by kernel_rfl) (by simp) ?_;refine(AllReadyH.cons (o:=⟨some 96,_,_,_,_,_⟩) rfl (fun K hK=>?_) AllReadyH.nil);go_simp;refine Calls.mono (bU.out _ _ (bwt HW.out) (HB.out.bl bw)) ?_;rintro e wk ak;have aH:=hid ak;obtain⟨bH,bq,bG,bn,bI,bu,aB,ay,aC,az,rfl,_,_,_,_,_,aF⟩:=ak;have HW:=hid aF;have aJ:=hid (HG.out.below aF);clear aF;refine hK.out _ _ (kwt HW.out) (fun hHeld=>?_);clear hK K
    try simp only[qP,qN,qS,qZ,qC]
    refine wpAnyH_take (i:=11) (oi:=⟨some 97,_,_,_,_,_⟩) (v:=_) rfl (by kernel_rfl) (by kernel_rfl) (by kernel_rfl) (fun _ _ _ h=>h) (Or.inl ⟨by rfl,fun w hS=>by clear hS;go_simp;try with_reducible rfl⟩) hHeld ?_
    try simp only[qP,qN,qS,qZ,qC]
    refine wpAnyH_take (i:=12) (oi:=⟨some 98,_,_,_,_,_⟩) (v:=_) rfl (by kernel_rfl) (by kernel_rfl) (by kernel_rfl) (fun _ _ _ h=>h) (Or.inl ⟨by rfl,fun w hS=>by clear hS;go_simp;try with_reducible rfl⟩) hHeld ?_
    try simp only[qP,qN,qS,qZ,qC]
    refine wpAnyH_ready (rs:=[13]) (by kernel_rfl) (by simp) ?_;refine(AllReadyH.cons (o:=⟨none,_,_,_,_,_⟩) rfl (fun K hK=>?_) AllReadyH.nil);rw[if_pos (by rfl)];refine wp_store_row 35 (.tmp 4) (.tmp 97) rfl (w.heap.size+1) #[.slice bH af.1.ops.length bq,.slice bG af.1.bp.length bn,.slice bI af.1.bm.length bu,.slice aB af.1.ap.length ay,.slice aC af.1.am.length az] rfl rfl 35 _ aJ.out (by kernel_rfl) (by simp) (by simp[Value.oneCell']) ?_;refine Rx aJ.out (fun X9 aL=>?_);refine hK.out _ _ ((kwt HW.out).trans' aL.out.1) (fun hHeld=>?_);clear hK K
    try simp only[qP,qN,qS,qZ,qC]
    refine wpAnyH_take (i:=14) (oi:=⟨some 5,_,_,_,_,_⟩) (v:=_) rfl (by kernel_rfl) (by kernel_rfl) (by kernel_rfl) (fun _ _ _ h=>h) (Or.inl ⟨by rfl,fun w hS=>by clear hS;go_simp;try with_reducible rfl⟩) hHeld ?_
    try simp only[qP,qN,qS,qZ,qC]
    refine wpAnyH_done (by kernel_rfl) ?_ _;refine NoPanic.normal ?_
   all_goals
    refine(‹∀(a:Act) (cZ:World),Code.wp Tryz.prog Code.ret (Exit.inBlock 0 (Exit.then K9 (bodyPost Tryz.prog Tryz.f49 (ZC w af)))) a cZ->_›) _ _ (wp_ret ?_);refine bodyPost_ret (v:=.tuple #[.agg #[.slice bH af.1.ops.length bq,.slice bG af.1.bp.length bn,.slice bI af.1.bm.length bu,.slice aB af.1.ap.length ay,.slice aC af.1.am.length az],.int .i64 af.2]) (Y1 Tryz.results49 _ _ _ (w.heap.size+1) 35 _ (0,0) _ rfl aL.out.2.1 rfl Tryz.underlying35 (by kernel_rfl) _ rfl) rfl ?_;exact ZC.put (arr:=#[]) aH.out aJ.out aL.out.1 aL.out.2.2 ah.out (Nat.le_succ _)
 case rest =>
 obtain⟨bZ,bN⟩:=hcut;have dA:=hid (bg.out.trans (bZ.mono bg.out.size));have bB:=hid (bC.out.below bZ);have bR:=hid (bM.out.below bZ);have au:=hid (bN.trans ek.out);clear bZ bN bP s0 s1 s2 s3 s4 s5 s6 s7 s8 s9 aW aK aV aU aT aS aR aQ aP aO bC bM HC;obtain⟨s0,s1,s2,s3,s4,s5,s6,s7,s8,s9,aW,aK,aV,aU,aT,aS,aR,aQ,aP,aO⟩:=zHd bB.out;obtain⟨sp,se⟩:=SR
 go_upto_region 14 with fail
 go_cut [11,12] from 99 to 108 (fun v e wx=>∃A6 c6,v=.slice A6 sp.length c6/\e=.int .i64 se/\Below wc.heap.size wc wx/\Z0 wx (fun k=>wc.heap.size<=k/\k<wx.heap.size) sp (.slice A6 sp.length c6))
 case first =>
  have hf:=dO.out;have dK:=CS.out _ dA.out;cases back
  all_goals
   simp only[Bool.false_eq_true,if_false,if_true,ite_true,ite_false] at hf;subst hf
   go_wp2_with fail
   refine dK.mono ?_;rintro e w6 ⟨aD,v6,rfl,bK⟩;obtain⟨A6,c6,rfl⟩:=bK.form;have HX:=hid (Qh aD bK);clear aD bK dK
   go_wp2_with fail
   go_meet;exact⟨A6,c6,rfl,rfl,HX.out⟩
 case rest =>
 obtain⟨A6,c6,rfl,rfl,aD,bK⟩:=hcut;have ah:=hid (dA.out.trans (aD.mono dA.out.size));have dx:=hid (bB.out.below aD);have HG:=hid (bR.out.below aD);have eB:=hid bK;clear aD bK s0 s1 s2 s3 s4 s5 s6 s7 s8 s9 aW aK aV aU aT aS aR aQ aP aO bB bR;by_cases h0:se=0
 ·subst h0;have HR:=hid (au.out.trans (if_neg (by simp)));have HL:Hid (sp.length+([]:List Int).length<=100000):=by have:=d9.out;simp only at this;show _+0<=_;omega
  have HW:Hid (Below wc.heap.size wc wc):=hid (Qg _ _);have bU:=hid (fun W B (hW:Below wc.heap.size wc W) hb=>(CD.out W B [] sp (ah.out.trans (hW.mono ah.out.size)) wc hb (by simp)).mono (fun e w' (h:ZC wc _ e w')=>(by rw[HR.out];exact h:ZC wc af e w')));clear au
  go_wp2_with (first
   |(refine wpList_load_row rfl 69 (.tmp 2) rfl w.heap.size rfl 69 _ (0,0) _ dx.out Tryz.underlying69 rfl (by kernel_rfl) ?_)
   |(go_at_call 44;refine Calls.mono (Wx _ _ _ _ _ _ _ _ _ _ _ _ _ _ _ _ _ _ _ _ wc _ (bwt HW.out)) ?_;rintro e wk ⟨B,F,rfl,aa,ae⟩;have HB:=hid aa;have HW:=hid aa.below;clear ae aa)
   |(go_at_call 47;refine Calls.mono (XN (HB.out.bl bw) sp [] _ _ _ _ (Z8.below (eB.out.keep (fun _ _=>rfl) (fun k hk=>hk.2)) (bwt HW.out) (bwt HW.out).size) (Z8.nil_ 0 (Qj _) none) HL.out) ?_;rintro e wk ⟨rfl,ag⟩;rw[List.append_nil] at ag;have HB:=hid ag;have HW:=hid ag.below;clear ag)
   |(go_at_call 48;refine Calls.mono (bU.out _ _ (bwt HW.out) (HB.out.bl bw)) ?_;rintro e wk ak;have aH:=hid ak;obtain⟨bH,bq,bG,bn,bI,bu,aB,ay,aC,az,rfl,_,_,_,_,_,aF⟩:=ak;have HW:=hid aF;have aJ:=hid (HG.out.below aF);clear aF)
   |(refine wpList_store_row rfl 35 (.tmp 4) (.tmp 118) rfl (w.heap.size+1) _ rfl rfl 35 _ aJ.out (by kernel_rfl) (by simp) (by simp[Value.oneCell']) ?_)
   |fail)
  refine bodyPost_ret (v:=.tuple #[.agg #[.slice bH af.1.ops.length bq,.slice bG af.1.bp.length bn,.slice bI af.1.bm.length bu,.slice aB af.1.ap.length ay,.slice aC af.1.am.length az],.int .i64 af.2]) (Y1 Tryz.results49 _ _ _ (w.heap.size+1) 35 _ (0,0) _ rfl (aJ.out.row _) rfl Tryz.underlying35 (by kernel_rfl) _ rfl) rfl ?_;exact ZC.put (arr:=#[]) aH.out aJ.out (ZY.setRow _ _ _) (size_setRow _ _ _) ah.out (Nat.le_succ _)
 have hse:(se != 0)=true:=by simp[h0]
 have HR:=hid (au.out.trans (if_pos (by simpa using h0)));clear h0 au
 go_wp2_with (first
  |(refine wpList_store_row rfl 35 (.tmp 4) (.tmp 111) rfl (w.heap.size+1) _ rfl rfl 35 _ HG.out (by kernel_rfl) (by simp) (by simp[Value.oneCell']) ?_)
  |fail)
 refine bodyPost_ret (v:=.tuple #[.agg #[.slice none 0 0,.slice none 0 0,.slice none 0 0,.slice none 0 0,.slice none 0 0],.int .i64 se]) (Y1 Tryz.results49 _ _ _ (w.heap.size+1) 35 _ (0,0) _ rfl (HG.out.row _) rfl Tryz.underlying35 (by kernel_rfl) _ rfl) rfl ?_;rw[HR.out];exact XI se (Y6 ah.out (Nat.le_succ _) _)
