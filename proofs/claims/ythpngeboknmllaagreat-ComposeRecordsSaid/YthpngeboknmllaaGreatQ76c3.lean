/- T -/
import Derived.Test.YthpngeboknmllaaGreatQc99b
set_option linter.unusedVariables false
set_option linter.unusedSimpArgs false
set_option maxHeartbeats 16000000
set_option maxRecDepth 100000
namespace Go.Proofs.YthpngeboknmllaaGreat
open Go.RowKit
theorem zIf (t:Z9) (p m:List Int) (back:Bool):((ZK t p m).2≠0->WB t p m back=(ZB,(ZK t p m).2)) /\
  (∀rr ra rb,ZK t p m=((rr,ra,rb),0)->ra<rb->WB t p m back=YE t p m [Zf rr ra (Yk t rr ra rb).1] (rr++[ra]) []) /\
  (∀rr ra rb,ZK t p m=((rr,ra,rb),0)->¬ra<rb->WB t p m back=We t p m back):=by
 refine⟨fun h=>?_,fun rr ra rb h aa=>?_,fun rr ra rb h aa=>zJs (by rw[h]) (by rw[h];exact aa)⟩
 ·unfold WB;rw[if_pos h]
 have h2:=(zN4 (t:=t) (p:=p) (m:=m) (by rw[h])).2;rw[h] at h2;simp only at h2;unfold WB WW;rw[h];simp only;rw[if_neg (by simp),if_pos aa,if_neg (by omega)];rfl
theorem zJx (t:Z9) (p m:List Int) (A Ap Am:Option Addr) (cap cp cm:Nat) (back:Bool) (w:World) (hv:Z8 Z6 w (Lt w.heap.size) t.kids (.slice A t.kids.length cap)) (bg:Zk t) (bW:ZR t<=900000) (hp:Z0 w (Lt w.heap.size) p (.slice Ap p.length cp)) (hm:Z0 w (Lt w.heap.size) m (.slice Am m.length cm)) (bQ:p.length<=90000) (bR:m.length<=90000) :
  Calls Tryz.prog 17 #[.agg #[.int .i64 t.kind,.string t.text,.int .i64 t.cols,.slice A t.kids.length cap],.agg #[.slice Ap p.length cp,.slice Am m.length cm],.bool back] w (ZC w (WB t p m back)):=by
 obtain⟨W0,aK⟩:∃W0,((w.alloc (.cells #[.int .i64 t.kind,.string t.text,.int .i64 t.cols,.slice A t.kids.length cap] 24)).alloc (.cells #[.slice Ap p.length cp,.slice Am m.length cm] 27)).alloc (.cells #[.slice none 0 0,.slice none 0 0,.slice none 0 0,.slice none 0 0,.slice none 0 0] 35)=W0:=⟨_,rfl⟩;have aC:Below w.heap.size w W0:=by rw[<-aK];exact Zy (Zy (ZW _ _) _) _
 have aJ:Z5 W0 w.heap.size (.cells #[.int .i64 t.kind,.string t.text,.int .i64 t.cols,.slice A t.kids.length cap] 24):=by rw[<-aK];exact((Z5.at0 _ _).al _).al _
 have bn:Z5 W0 (w.heap.size+1) (.cells #[.slice Ap p.length cp,.slice Am m.length cm] 27):=by rw[<-aK];exact(Z5.at1 _ _ _).al _
 have dw:Hid (Z5 W0 (w.heap.size+1+1) (.cells #[.slice none 0 0,.slice none 0 0,.slice none 0 0,.slice none 0 0,.slice none 0 0] 35)):=by show Z5 _ _ _;rw[<-aK];exact Z5.at2 _ _ _ _
 have CL:=QB t p m A Ap Am cap cp cm W0 (hv.below aC aC.size) bg bW (hp.below aC aC.size) (hm.below aC aC.size) bQ bR;have HE:=hid (zIf t p m back);have dn:=hid bg;have dh:=hid aC;have m0:=aJ.cell 0;have m1:=aJ.cell 1;have m2:=aJ.cell 2;have m3:=aJ.cell 3;have n0:=bn.cell 0;have n1:=bn.cell 1;simp only[List.getElem?_toArray,List.getElem?_cons_zero,List.getElem?_cons_succ] at m0 m1 m2 m3 n0 n1;have CC:=hid CL;obtain⟨af,aL⟩:∃af,WB t p m back=af:=⟨_,rfl⟩;rw[aL] at HE ⊢;clear hv bg bW hp hm bQ bR aC aJ bn CL aL;go_enter Tryz.func17,Tryz.ntmps17
 go_wp2_with fail
 refine CC.out.mono ?_;rintro e w1 ⟨bu,h1⟩;have aN:=hid (dh.out.trans (bu.mono dh.out.size));have aM:=hid (dw.out.below bu);clear bu m0 m1 m2 m3 n0 n1 aK;rcases h1 with ⟨he,rfl⟩|⟨he,rr,Ar,cr,ra,rb,q,A1,o,its,Ai,ci,ar,q2,A2,c2,i,s,it,A3,c3,rfl,aa⟩
 ·have HR:=hid (HE.out.1 he);have hse:((ZK t p m).2 != 0)=true:=by simp[he]
  clear CC HE;generalize (ZK t p m).2=se at *
  go_upto_region 2 with (first
   |(refine wpList_store_row rfl 69 (.tmp 8) (.tmp 15) rfl w1.heap.size _ rfl rfl 69 _ (Z5.at0 _ _) (by kernel_rfl) (by simp) (by simp[Value.oneCell']) ?_)
   |fail)
  generalize hX:World.setRow _ _ _=X;have aV:Hid (Below w.heap.size w X):=by show Below _ _ _;rw[<-hX];exact Y6 (aN.out.trans ((ZW w1 _).mono aN.out.size)) aN.out.size _
  have HG:Hid (Z5 X (w.heap.size+1+1) (.cells #[.slice none 0 0,.slice none 0 0,.slice none 0 0,.slice none 0 0,.slice none 0 0] 35)):=by show Z5 _ _ _;rw[<-hX];exact(setRow_other _ _ _ _ (Nat.ne_of_lt aM.out.lt)).trans (aM.out.al _)
  clear hX
  go_wp2_with (first
   |(refine wpList_store_row rfl 35 (.tmp 6) (.tmp 19) rfl (w.heap.size+1+1) _ rfl rfl 35 _ HG.out (by kernel_rfl) (by simp) (by simp[Value.oneCell']) ?_)
   |fail)
  refine bodyPost_ret (v:=.tuple #[.agg #[.slice none 0 0,.slice none 0 0,.slice none 0 0,.slice none 0 0,.slice none 0 0],.int .i64 se]) (Y1 Tryz.results17 _ _ _ (w.heap.size+1+1) 35 _ (0,0) _ rfl (HG.out.row _) rfl Tryz.underlying35 (by kernel_rfl) _ rfl) rfl ?_;rw[HR.out];exact XI se (Y6 aV.out (by omega) _)
 have aO:=aa.of;simp only at aO;have cZ:=hid (HE.out.2.1 rr ra rb aO);have cO:=hid (HE.out.2.2 rr ra rb aO);simp only[Vy];clear CC HE he aO
 go_upto_region 2 with (first
  |(refine wpList_store_row rfl 69 (.tmp 8) (.tmp 15) rfl w1.heap.size _ rfl rfl 69 _ (Z5.at0 _ _) (by kernel_rfl) (by simp) (by simp[Value.oneCell']) ?_)
  |fail)
 generalize hX:World.setRow _ _ _=X;have aP:Below w1.heap.size w1 X:=by rw[<-hX];exact Y6 (ZW w1 _) (Qi _) _
 have bz:Hid (Z5 X w1.heap.size (.cells #[.int .i64 t.kind,.string t.text,.int .i64 t.cols,.slice A t.kids.length cap,.slice Ap p.length cp,.slice Am m.length cm,.slice Ar rr.length cr,.int .i64 ra,.int .i64 rb,.slice A1 q.length cp,.int .i64 o,.slice Ai its.length ci,.bool ar,.slice A2 q2.length c2,.int .i64 i,.int .i64 s,.int .i64 it.kind,.string it.text,.int .i64 it.cols,.slice A3 it.kids.length c3] 69)):=by show Z5 _ _ _;rw[<-hX];exact(Z5.at0 w1 _).row _
 have HG:Hid (Z5 X (w.heap.size+1+1) (.cells #[.slice none 0 0,.slice none 0 0,.slice none 0 0,.slice none 0 0,.slice none 0 0] 35)):=hid (aM.out.below aP);have aV:=hid (aN.out.trans (aP.mono aN.out.size));have cK:=hid (aa.bl aP);have aU:Hid (w1.heap.size≠w.heap.size+1+1):=fun e=>Nat.lt_irrefl _ (e ▸ aM.out.lt)
 have HF:=hid (Tz aa);clear hX aP aa;obtain⟨bl,bq⟩:∃bl,decide (ra<rb)=bl:=⟨_,rfl⟩;have bC:=hid bq;have df:=hid (fun (W:World) (x0 x1 x2 x3 x4 x5 x6 x9 bP bN bM bL bK bJ bI bH bG bD:Value)=>(by rw[<-bq];exact zK4 x0 x1 x2 x3 x4 x5 x6 x9 bP bN bM bL bK bJ bI bH bG bD ra rb W:Calls Tryz.prog 43 #[.agg #[x0,x1,x2,x3,x4,x5,x6,.int .i64 ra,.int .i64 rb,x9,bP,bN,bM,bL,bK,bJ,bI,bH,bG,bD]] W (XA W bl)));clear bq
 go_upto_if 22 with (first
  |(refine wpList_load_row rfl 69 (.tmp 8) rfl w1.heap.size rfl 69 _ (0,0) _ bz.out Tryz.underlying69 rfl (by kernel_rfl) ?_)
  |(go_at_call 43;refine Calls.mono (df.out _ _ _ _ _ _ _ _ _ _ _ _ _ _ _ _ _ _ _) ?_;rintro e w2 ⟨rfl,bY⟩;have aW:=hid bY;clear bY)
  |fail)
 have cB:=hid (aV.out.trans (aW.out.mono aV.out.size));have HS:=hid (bz.out.below aW.out);have HG:=hid (HG.out.below aW.out);have aF:=hid (cK.out.bl aW.out);clear bz cK aM df;cases bl
 case true =>
  have bU:=of_decide_eq_true bC.out;have bA:=hid (cZ.out bU);have aD:Hid (rr.length<=1000000/\ZQ (Yk t rr ra rb).1<=1000000):=⟨by have:=HF.out;omega,Qf (zH5 HF.out.1 rr ra rb) (by decide)⟩;have bB:Hid (∀W,Below w2.heap.size w2 W->Calls Tryz.prog 46 #[.agg #[.int .i64 t.kind,.string t.text,.int .i64 t.cols,.slice A t.kids.length cap,.slice Ap p.length cp,.slice Am m.length cm,.slice Ar rr.length cr,.int .i64 ra,.int .i64 rb,.slice A1 q.length cp,.int .i64 o,.slice Ai its.length ci,.bool ar,.slice A2 q2.length c2,.int .i64 i,.int .i64 s,.int .i64 it.kind,.string it.text,.int .i64 it.cols,.slice A3 it.kids.length c3]] W (OpP (Lt w2.heap.size) W (Zf rr ra (Yk t rr ra rb).1))):=fun W hW=>by have h9:=aF.out.bl hW;exact zVi (Lt w2.heap.size) t rr ra rb A Ar cap cr _ _ _ _ _ _ _ _ _ _ _ _ _ W h9.tk dn.out h9.tct (aF.out.r.keep (fun r hr=>hW.cell hr) (fun k hk=>⟨Qk hk hW.size,hk⟩)) (YU (by have:=HF.out;omega)) (YU (by have:=HF.out;omega))
  generalize (Yk t rr ra rb).1=l9 at *;have ag:Hid (∀i∈[ra],Z4 i):=fun i hi=>by rw[List.mem_singleton.1 hi];exact YU (by have:=HF.out;omega)
  have HL:Hid (rr.length+[ra].length<=100000):=by have:=HF.out;show _+1<=_;omega
  have HW:Hid (Below w2.heap.size w2 w2):=hid (Qg _ _);have dx:=hid (fun W B (hW:Below w2.heap.size w2 W) hb=>(RD aF.out (w0:=w2) (B:=B) (ops:=[Zf rr ra l9]) (pos:=rr++[ra]) (am:=[]) hW hb (by simp)).mono (fun e w' (h:ZC w2 _ e w')=>(by rw[bA.out];exact h:ZC w2 af e w')));clear bU
  go_upto_region 5 with fail
  refine wp_region_noPanic ?_;refine wp_region_held_drew (S:=fun w'=>ZY (fun k=>k=w.heap.size+1+1) w2 w') (by kernel_rfl) (kwt HW.out) (fun hHeld=>?_);refine wpAnyH_take (i:=0) (oi:=⟨some 23,_,_,_,_,_⟩) (v:=_) rfl (by kernel_rfl) (by kernel_rfl) (by kernel_rfl) (fun _ _ _ h=>h) (Xh 69 (.tmp 8) rfl (by rfl) _ rfl (fun w hS=>hS.obj HS.out aU.out) Tryz.underlying69 (by kernel_rfl)) hHeld ?_
  try simp only[qP,qN,qS,qZ,qC]
  refine wpAnyH_take (i:=2) (oi:=⟨some 25,_,_,_,_,_⟩) (v:=_) rfl (by kernel_rfl) (by kernel_rfl) (by kernel_rfl) (fun _ _ _ h=>h) (Xh 69 (.tmp 8) rfl (by rfl) _ rfl (fun w hS=>hS.obj HS.out aU.out) Tryz.underlying69 (by kernel_rfl)) hHeld ?_
  try simp only[qP,qN,qS,qZ,qC]
  refine wpAnyH_take (i:=5) (oi:=⟨some 28,_,_,_,_,_⟩) (v:=_) rfl (by kernel_rfl) (by kernel_rfl) (by kernel_rfl) (fun _ _ _ h=>h) (Or.inl ⟨by rfl,fun w hS=>by clear hS;go_simp;try with_reducible rfl⟩) hHeld ?_
  try simp only[qP,qN,qS,qZ,qC]
  refine wpAnyH_take (i:=6) (oi:=⟨some 29,_,_,_,_,_⟩) (v:=_) rfl (by kernel_rfl) (by kernel_rfl) (by kernel_rfl) (fun _ _ _ h=>h) (Or.inl ⟨by rfl,fun w hS=>by clear hS;go_simp;try with_reducible rfl⟩) hHeld ?_
  try simp only[qP,qN,qS,qZ,qC]
  refine wpAnyH_take (i:=7) (oi:=⟨some 30,_,_,_,_,_⟩) (v:=_) rfl (by kernel_rfl) (by kernel_rfl) (by kernel_rfl) (fun _ _ _ h=>h) (Or.inl ⟨by rfl,fun W hS=>by have h:W.cell? ⟨w1.heap.size,6,none⟩=some (.slice Ar rr.length cr):=(hS.obj HS.out aU.out).cell 6;clear hS;go_simp;try with_reducible rfl⟩) hHeld ?_
  try simp only[qP,qN,qS,qZ,qC]
  refine wpAnyH_take (i:=8) (oi:=⟨some 31,_,_,_,_,_⟩) (v:=_) rfl (by kernel_rfl) (by kernel_rfl) (by kernel_rfl) (fun _ _ _ h=>h) (Or.inl ⟨by rfl,fun w hS=>by clear hS;go_simp;try with_reducible rfl⟩) hHeld ?_
  try simp only[qP,qN,qS,qZ,qC]
  refine wpAnyH_take (i:=9) (oi:=⟨some 32,_,_,_,_,_⟩) (v:=_) rfl (by kernel_rfl) (by kernel_rfl) (by kernel_rfl) (fun _ _ _ h=>h) (Or.inl ⟨by rfl,fun w hS=>by clear hS;go_simp;try with_reducible rfl⟩) hHeld ?_
  try simp only[qP,qN,qS,qZ,qC]
  refine wpAnyH_take (i:=10) (oi:=⟨some 33,_,_,_,_,_⟩) (v:=_) rfl (by kernel_rfl) (by kernel_rfl) (by kernel_rfl) (fun _ _ _ h=>h) (Or.inl ⟨by rfl,fun W hS=>by have h:W.cell? ⟨w1.heap.size,7,none⟩=some (.int .i64 ra):=(hS.obj HS.out aU.out).cell 7;clear hS;go_simp;try with_reducible rfl⟩) hHeld ?_
  try simp only[qP,qN,qS,qZ,qC]
  refine wpAnyH_ready (rs:=[1,11]) (by kernel_rfl) (by simp) ?_;refine(AllReadyH.cons (o:=⟨some 24,_,_,_,_,_⟩) rfl (fun K hK=>?_) (AllReadyH.cons (o:=⟨some 34,_,_,_,_,_⟩) rfl (fun K hK=>?_) AllReadyH.nil));go_simp;refine Calls.mono (Wx _ _ _ _ _ _ _ _ _ _ _ _ _ _ _ _ _ _ _ _ w2 _ (bwt HW.out)) ?_;rintro e wk ⟨B,F,rfl,ae,aa⟩
  try have HO:=hid (Qh (aa.keep (Zv bw HO.out.1)) (aa.keep (Zv bw HO.out.2)))
  try have HR:=hid (YX.keep aa (Zv bw HR.out))
  have HB:=hid ae;have au:=HB;have HW:=hid ae.below;clear aa ae;refine hK.out _ _ (kwt HW.out) (fun hHeld=>?_);clear hK K
  try simp only[qP,qN,qS,qZ,qC]
  refine wpAnyH_ready (rs:=[3,11]) (by kernel_rfl) (by simp) ?_;refine(AllReadyH.cons (o:=⟨some 26,_,_,_,_,_⟩) rfl (fun K hK=>?_) (AllReadyH.cons (o:=⟨some 34,_,_,_,_,_⟩) rfl (fun K hK=>?_) AllReadyH.nil));go_simp;refine Calls.mono (bB.out _ (bwt HW.out)) ?_;rintro e wk ⟨di,bZ,dm,cu,rfl,aA,aB,aj⟩;have HO:=hid (Qh (VV HB.out.lo (BS.bl HB.out bw).hi aA) (VV HB.out.lo (BS.bl HB.out bw).hi aB))
  try have HR:=hid (YX.keep (YX.of_bl aj) (Zv bw HR.out))
  have HB:=hid (BS.bl (BS.bl HB.out bw) aj);have au:=HB;have HW:=hid ((bwt HW.out).trans (aj.mono (bwt HW.out).size));clear aA aB aj;refine hK.out _ _ (kwt HW.out) (fun hHeld=>?_);clear hK K
  try simp only[qP,qN,qS,qZ,qC]
  refine wpAnyH_ready (rs:=[4,11]) (by kernel_rfl) (by simp) ?_;refine(AllReadyH.cons (o:=⟨some 27,_,_,_,_,_⟩) rfl (fun K hK=>?_) (AllReadyH.cons (o:=⟨some 34,_,_,_,_,_⟩) rfl (fun K hK=>?_) AllReadyH.nil));go_simp;refine Calls.mono (XO (HB.out.bl bw) (Zf rr ra l9) _ _ _ _ (by simp) (YZ (Zv bw HO.out.1)) (YZ (Zv bw HO.out.2)) aD.out.1 aD.out.2 (by simp[Zf,Z4]) (ag.out _ (List.mem_singleton.2 rfl)) (by simp[Zf,Z4]) (by simp[Zf,Z4]) (Qj _) (Qj _)) ?_;rintro e wk ⟨F,rfl,ae,aa⟩
  try have HR:=hid (YX.keep aa (Zv bw HR.out))
  have HB:=hid ae;have au:=HB;have HW:=hid ae.below;clear aa ae;refine hK.out _ _ (kwt HW.out) (fun hHeld=>?_);clear hK K
  try simp only[qP,qN,qS,qZ,qC]
  refine wpAnyH_ready (rs:=[11]) (by kernel_rfl) (by simp) ?_;refine(AllReadyH.cons (o:=⟨some 34,_,_,_,_,_⟩) rfl (fun K hK=>?_) AllReadyH.nil);go_simp;refine hK.out _ _ (kwt HW.out) (fun hHeld=>?_);clear hK K
  try simp only[qP,qN,qS,qZ,qC]
  refine wpAnyH_ready (rs:=[12]) (by kernel_rfl) (by simp) ?_;refine(AllReadyH.cons (o:=⟨some 35,_,_,_,_,_⟩) rfl (fun K hK=>?_) AllReadyH.nil);go_simp;refine Calls.mono (XN (HB.out.bl bw) rr [ra] _ _ _ _ (aF.out.r.below (bwt HW.out) (bwt HW.out).size) (TZ _ [ra] _ (ag.out) (by simp[maxLen])) (HL.out)) ?_;rintro e wk ⟨rfl,ah⟩;have HB:=hid ah;have HW:=hid ah.below;clear ah;refine hK.out _ _ (kwt HW.out) (fun hHeld=>?_);clear hK K
  try simp only[qP,qN,qS,qZ,qC]
  rotate_left;go_simp;refine hK.out _ _ (kwt HW.out) (fun hHeld=>?_);clear hK K
  try simp only[qP,qN,qS,qZ,qC]
  refine wpAnyH_ready (rs:=[4]) (by kernel_rfl) (by simp) ?_;refine(AllReadyH.cons (o:=⟨some 27,_,_,_,_,_⟩) rfl (fun K hK=>?_) AllReadyH.nil);go_simp;refine Calls.mono (XO (HB.out.bl bw) (Zf rr ra l9) _ _ _ _ (by simp) (YZ (Zv bw HO.out.1)) (YZ (Zv bw HO.out.2)) aD.out.1 aD.out.2 (by simp[Zf,Z4]) (ag.out _ (List.mem_singleton.2 rfl)) (by simp[Zf,Z4]) (by simp[Zf,Z4]) (Qj _) (Qj _)) ?_;rintro e wk ⟨F,rfl,ae,aa⟩;have HR:=hid (Ty [ra] (ag.out) (by simp[maxLen]) ((BS.bl au.out bw).hi) aa);have HB:=hid ae;have au:=HB;have HW:=hid ae.below;clear aa ae;refine hK.out _ _ (kwt HW.out) (fun hHeld=>?_);clear hK K
  try simp only[qP,qN,qS,qZ,qC]
  refine wpAnyH_ready (rs:=[12]) (by kernel_rfl) (by simp) ?_;refine(AllReadyH.cons (o:=⟨some 35,_,_,_,_,_⟩) rfl (fun K hK=>?_) AllReadyH.nil);go_simp;refine Calls.mono (XN (HB.out.bl bw) rr [ra] _ _ _ _ (aF.out.r.below (bwt HW.out) (bwt HW.out).size) (YZ (Zv bw HR.out)) (HL.out)) ?_;rintro e wk ⟨rfl,ah⟩;have HB:=hid ah;have HW:=hid ah.below;clear ah;refine hK.out _ _ (kwt HW.out) (fun hHeld=>?_);clear hK K
  try simp only[qP,qN,qS,qZ,qC]
  rotate_left;go_simp;refine hK.out _ _ (kwt HW.out) (fun hHeld=>?_);clear hK K
  try simp only[qP,qN,qS,qZ,qC]
  refine wpAnyH_ready (rs:=[3]) (by kernel_rfl) (by simp) ?_;refine(AllReadyH.cons (o:=⟨some 26,_,_,_,_,_⟩) rfl (fun K hK=>?_) AllReadyH.nil);go_simp;refine Calls.mono (bB.out _ (bwt HW.out)) ?_;rintro e wk ⟨di,bZ,dm,cu,rfl,aA,aB,aj⟩;have HO:=hid (Qh (VV HB.out.lo (BS.bl HB.out bw).hi aA) (VV HB.out.lo (BS.bl HB.out bw).hi aB));have HR:=hid (Ty [ra] (ag.out) (by simp[maxLen]) ((BS.bl au.out bw).hi) (YX.of_bl aj));have HB:=hid (BS.bl (BS.bl HB.out bw) aj);have au:=HB;have HW:=hid ((bwt HW.out).trans (aj.mono (bwt HW.out).size));clear aA aB aj;refine hK.out _ _ (kwt HW.out) (fun hHeld=>?_);clear hK K
  try simp only[qP,qN,qS,qZ,qC]
  refine wpAnyH_ready (rs:=[4]) (by kernel_rfl) (by simp) ?_;refine(AllReadyH.cons (o:=⟨some 27,_,_,_,_,_⟩) rfl (fun K hK=>?_) AllReadyH.nil);go_simp;refine Calls.mono (XO (HB.out.bl bw) (Zf rr ra l9) _ _ _ _ (by simp) (YZ (Zv bw HO.out.1)) (YZ (Zv bw HO.out.2)) aD.out.1 aD.out.2 (by simp[Zf,Z4]) (ag.out _ (List.mem_singleton.2 rfl)) (by simp[Zf,Z4]) (by simp[Zf,Z4]) (Qj _) (Qj _)) ?_;rintro e wk ⟨F,rfl,ae,aa⟩
  try have HR:=hid (YX.keep aa (Zv bw HR.out))
  have HB:=hid ae;have au:=HB;have HW:=hid ae.below;clear aa ae;refine hK.out _ _ (kwt HW.out) (fun hHeld=>?_);clear hK K
  try simp only[qP,qN,qS,qZ,qC]
  refine wpAnyH_ready (rs:=[12]) (by kernel_rfl) (by simp) ?_;refine(AllReadyH.cons (o:=⟨some 35,_,_,_,_,_⟩) rfl (fun K hK=>?_) AllReadyH.nil);go_simp;refine Calls.mono (XN (HB.out.bl bw) rr [ra] _ _ _ _ (aF.out.r.below (bwt HW.out) (bwt HW.out).size) (YZ (Zv bw HR.out)) (HL.out)) ?_;rintro e wk ⟨rfl,ah⟩;have HB:=hid ah;have HW:=hid ah.below;clear ah;refine hK.out _ _ (kwt HW.out) (fun hHeld=>?_);clear hK K
  try simp only[qP,qN,qS,qZ,qC]
  rotate_left;go_simp;refine hK.out _ _ (kwt HW.out) (fun hHeld=>?_);clear hK K
  try simp only[qP,qN,qS,qZ,qC]
  refine wpAnyH_ready (rs:=[1]) (by kernel_rfl) (by simp) ?_;refine(AllReadyH.cons (o:=⟨some 24,_,_,_,_,_⟩) rfl (fun K hK=>?_) AllReadyH.nil);go_simp;refine Calls.mono (Wx _ _ _ _ _ _ _ _ _ _ _ _ _ _ _ _ _ _ _ _ w2 _ (bwt HW.out)) ?_;rintro e wk ⟨B,F,rfl,ae,aa⟩
  try have HO:=hid (Qh (aa.keep (Zv bw HO.out.1)) (aa.keep (Zv bw HO.out.2)))
  have HR:=hid (zJ6 [ra] (ag.out) (by simp[maxLen]) (fun _ h=>False.elim h) aa);have HB:=hid ae;have au:=HB;have HW:=hid ae.below;clear aa ae;refine hK.out _ _ (kwt HW.out) (fun hHeld=>?_);clear hK K
  try simp only[qP,qN,qS,qZ,qC]
  refine wpAnyH_ready (rs:=[3]) (by kernel_rfl) (by simp) ?_;refine(AllReadyH.cons (o:=⟨some 26,_,_,_,_,_⟩) rfl (fun K hK=>?_) AllReadyH.nil);go_simp;refine Calls.mono (bB.out _ (bwt HW.out)) ?_;rintro e wk ⟨di,bZ,dm,cu,rfl,aA,aB,aj⟩;have HO:=hid (Qh (VV HB.out.lo (BS.bl HB.out bw).hi aA) (VV HB.out.lo (BS.bl HB.out bw).hi aB))
  try have HR:=hid (YX.keep (YX.of_bl aj) (Zv bw HR.out))
  have HB:=hid (BS.bl (BS.bl HB.out bw) aj);have au:=HB;have HW:=hid ((bwt HW.out).trans (aj.mono (bwt HW.out).size));clear aA aB aj;refine hK.out _ _ (kwt HW.out) (fun hHeld=>?_);clear hK K
  try simp only[qP,qN,qS,qZ,qC]
  refine wpAnyH_ready (rs:=[4]) (by kernel_rfl) (by simp) ?_;refine(AllReadyH.cons (o:=⟨some 27,_,_,_,_,_⟩) rfl (fun K hK=>?_) AllReadyH.nil);go_simp;refine Calls.mono (XO (HB.out.bl bw) (Zf rr ra l9) _ _ _ _ (by simp) (YZ (Zv bw HO.out.1)) (YZ (Zv bw HO.out.2)) aD.out.1 aD.out.2 (by simp[Zf,Z4]) (ag.out _ (List.mem_singleton.2 rfl)) (by simp[Zf,Z4]) (by simp[Zf,Z4]) (Qj _) (Qj _)) ?_;rintro e wk ⟨F,rfl,ae,aa⟩
  try have HR:=hid (YX.keep aa (Zv bw HR.out))
  have HB:=hid ae;have au:=HB;have HW:=hid ae.below;clear aa ae;refine hK.out _ _ (kwt HW.out) (fun hHeld=>?_);clear hK K
  try simp only[qP,qN,qS,qZ,qC]
  refine wpAnyH_ready (rs:=[12]) (by kernel_rfl) (by simp) ?_;refine(AllReadyH.cons (o:=⟨some 35,_,_,_,_,_⟩) rfl (fun K hK=>?_) AllReadyH.nil);go_simp;refine Calls.mono (XN (HB.out.bl bw) rr [ra] _ _ _ _ (aF.out.r.below (bwt HW.out) (bwt HW.out).size) (YZ (Zv bw HR.out)) (HL.out)) ?_;rintro e wk ⟨rfl,ah⟩;have HB:=hid ah;have HW:=hid ah.below;clear ah;refine hK.out _ _ (kwt HW.out) (fun hHeld=>?_);clear hK K
  try simp only[qP,qN,qS,qZ,qC]
  rotate_left
  all_goals
   refine wpAnyH_ready (rs:=[13]) (by kernel_rfl) (by simp) ?_;refine(AllReadyH.cons (o:=⟨some 36,_,_,_,_,_⟩) rfl (fun K hK=>?_) AllReadyH.nil);go_simp;refine Calls.mono (dx.out _ _ (bwt HW.out) (HB.out.bl bw)) ?_;rintro e wk ak;have aH:=hid ak;obtain⟨aY,aR,aX,aQ,aZ,aS,ay,av,az,ax,rfl,_,_,_,_,_,aG⟩:=ak;have HW:=hid aG;have aI:=hid (HG.out.below aG);clear aG;refine hK.out _ _ (kwt HW.out) (fun hHeld=>?_);clear hK K
   try simp only[qP,qN,qS,qZ,qC]
   refine wpAnyH_take (i:=14) (oi:=⟨some 37,_,_,_,_,_⟩) (v:=_) rfl (by kernel_rfl) (by kernel_rfl) (by kernel_rfl) (fun _ _ _ h=>h) (Or.inl ⟨by rfl,fun w hS=>by clear hS;go_simp;try with_reducible rfl⟩) hHeld ?_
   try simp only[qP,qN,qS,qZ,qC]
   refine wpAnyH_take (i:=15) (oi:=⟨some 38,_,_,_,_,_⟩) (v:=_) rfl (by kernel_rfl) (by kernel_rfl) (by kernel_rfl) (fun _ _ _ h=>h) (Or.inl ⟨by rfl,fun w hS=>by clear hS;go_simp;try with_reducible rfl⟩) hHeld ?_
   try simp only[qP,qN,qS,qZ,qC]
   refine wpAnyH_ready (rs:=[16]) (by kernel_rfl) (by simp) ?_;refine(AllReadyH.cons (o:=⟨none,_,_,_,_,_⟩) rfl (fun K hK=>?_) AllReadyH.nil);rw[if_pos (by rfl)];refine wp_store_row 35 (.tmp 6) (.tmp 37) rfl (w.heap.size+1+1) #[.slice aY af.1.ops.length aR,.slice aX af.1.bp.length aQ,.slice aZ af.1.bm.length aS,.slice ay af.1.ap.length av,.slice az af.1.am.length ax] rfl rfl 35 _ aI.out (by kernel_rfl) (by simp) (by simp[Value.oneCell']) ?_;refine Rx aI.out (fun X9 aT=>?_);refine hK.out _ _ ((kwt HW.out).trans' aT.out.1) (fun hHeld=>?_);clear hK K
   try simp only[qP,qN,qS,qZ,qC]
   refine wpAnyH_take (i:=17) (oi:=⟨some 7,_,_,_,_,_⟩) (v:=_) rfl (by kernel_rfl) (by kernel_rfl) (by kernel_rfl) (fun _ _ _ h=>h) (Or.inl ⟨by rfl,fun w hS=>by clear hS;go_simp;try with_reducible rfl⟩) hHeld ?_
   try simp only[qP,qN,qS,qZ,qC]
   refine wpAnyH_done (by kernel_rfl) ?_ _;refine NoPanic.normal ?_
  all_goals
   go_wp2_with fail
   refine bodyPost_ret (v:=.tuple #[.agg #[.slice aY af.1.ops.length aR,.slice aX af.1.bp.length aQ,.slice aZ af.1.bm.length aS,.slice ay af.1.ap.length av,.slice az af.1.am.length ax],.int .i64 af.2]) (Y1 Tryz.results17 _ _ _ (w.heap.size+1+1) 35 _ (0,0) _ rfl aT.out.2.1 rfl Tryz.underlying35 (by kernel_rfl) _ rfl) rfl ?_;exact ZC.put (arr:=#[]) aH.out aI.out aT.out.1 aT.out.2.2 cB.out (by omega)
 case false =>
 have HR:=hid (cO.out (by have:=of_decide_eq_false bC.out;omega));have CE:Hid (∀W,Below w2.heap.size w2 W->Calls Tryz.prog 49 #[.agg #[.int .i64 t.kind,.string t.text,.int .i64 t.cols,.slice A t.kids.length cap,.slice Ap p.length cp,.slice Am m.length cm,.slice Ar rr.length cr,.int .i64 ra,.int .i64 rb,.slice A1 q.length cp,.int .i64 o,.slice Ai its.length ci,.bool ar,.slice A2 q2.length c2,.int .i64 i,.int .i64 s,.int .i64 it.kind,.string it.text,.int .i64 it.cols,.slice A3 it.kids.length c3],.int .i64 (if back then -1 else 1)] W (ZC W af)):=fun W hW=>by rw[HR.out];exact zO7 ⟨t,A,cap,p,Ap,cp,m,Am,cm,rr,Ar,cr,ra,rb,q,A1,cp,o,its,Ai,ci,ar,q2,A2,c2,i,s,it,A3,c3⟩ back W (aF.out.bl hW)
 clear cZ cO bC;cases back
 all_goals
  simp only[Bool.false_eq_true,if_false,if_true,ite_true,ite_false] at CE
  go_wp2_with (first
   |(refine wpList_load_row rfl 69 (.tmp 8) rfl w1.heap.size rfl 69 _ (0,0) _ HS.out Tryz.underlying69 rfl (by kernel_rfl) ?_)
   |(go_at_call 49;refine Calls.mono (CE.out _ (Qg _ _)) ?_;rintro e wk ak;have aH:=hid ak;obtain⟨aY,aR,aX,aQ,aZ,aS,ay,av,az,ax,rfl,_,_,_,_,_,aG⟩:=ak;have HW:=hid aG;have aI:=hid (HG.out.below aG);clear aG)
   |(refine wpList_store_row rfl 35 (.tmp 6) (.tmp 43) rfl (w.heap.size+1+1) _ rfl rfl 35 _ aI.out (by kernel_rfl) (by simp) (by simp[Value.oneCell']) ?_)
   |fail)
  refine bodyPost_ret (v:=.tuple #[.agg #[.slice aY af.1.ops.length aR,.slice aX af.1.bp.length aQ,.slice aZ af.1.bm.length aS,.slice ay af.1.ap.length av,.slice az af.1.am.length ax],.int .i64 af.2]) (Y1 Tryz.results17 _ _ _ (w.heap.size+1+1) 35 _ (0,0) _ rfl (aI.out.row _) rfl Tryz.underlying35 (by kernel_rfl) _ rfl) rfl ?_;exact ZC.put (arr:=#[]) aH.out aI.out (ZY.setRow _ _ _) (size_setRow _ _ _) cB.out (by omega)
