/- T -/
import Derived.Test.YthpngeboknmllaaGreatQ8639
set_option linter.unusedVariables false
set_option linter.unusedSimpArgs false
set_option maxHeartbeats 16000000
set_option maxRecDepth 100000
namespace Go.Proofs.YthpngeboknmllaaGreat
open Go.RowKit
theorem VH {α:Type} {E:YW α} {F:Nat->Prop} {X w':World} {xs:List α} {v:Value} (aa:∀k,F k->k<X.heap.size) (h:Z8 E w' (fun k=>X.heap.size<=k/\k<w'.heap.size) xs v):Z8 E w' (NF F w') xs v :=
 h.keep (fun _ _=>rfl) (fun k hk=>⟨hk.2,fun e=>absurd (aa k e) (by omega)⟩)
theorem zS4 (t:Z9) (p m:List Int):((ZI t p m).2≠0->Xd t p m=(Zo,(ZI t p m).2))/\((ZI t p m).2=0->Zz t p=none->Xd t p m=(Zo,8)) /\
  (∀q2 i (s':Nat) it its,(ZI t p m).2=0->Zz t p=some ⟨q2,i,(s':Int),it⟩->(h:s'<it.kids.length)->it.kids[s']=Z6 its->Xd t p m=XW t p m [⟨4,q2,i,(its.length:Int),[Zp it s' []],(s':Int),ZQ,ZQ⟩] (Uz ⟨4,q2,i,(its.length:Int),[Zp it s' []],(s':Int),ZQ,ZQ⟩ p false) []):=by
 refine⟨fun h=>?_,fun h h1=>?_,fun q2 i s' it its h h1 h2 h3=>?_⟩
 ·unfold Xd;rw[if_pos h]
 ·unfold Xd;rw[if_neg (by simp[h]),h1]
 unfold Xd;rw[if_neg (by simp[h]),h1];simp only;have hk:(ZY it (s':Int)).kids=its:=by rw[Yq (by simpa using h2)];simp only[Int.toNat_natCast];rw[h3];rfl
 have hu:Zf ⟨q2,i,(s':Int),it⟩=⟨4,q2,i,(its.length:Int),[Zp it s' []],(s':Int),ZQ,ZQ⟩:=by
  unfold Zf;simp only[hk,Int.toNat_natCast]
 rw[hu];rfl
theorem zT3 {w:World} {d:Sz} (h:Tt w d):d.p.length<=24/\∀x∈d.p,Bd 1152921504606846976 x:=by
 have hf:=RI h;obtain⟨h1,h2⟩:=zKd d.t d.p hf.2.2.2.2.2.2.1;have h3:=X0 hf.1;refine⟨by omega,fun x hx=>?_⟩;have:=h2 x hx;unfold Bd;omega
theorem zTy (t:Z9) (p m:List Int) (A Ap Am:Option Addr) (cap cp cm:Nat) (w:World) (hv:Z8 Z7 w (Lt w.heap.size) t.kids (.slice A t.kids.length cap)) (bG:Zt t) (bK:ZW t<=900000) (hp:Z0 w (Lt w.heap.size) p (.slice Ap p.length cp)) (hm:Z0 w (Lt w.heap.size) m (.slice Am m.length cm)) (bD:p.length<=90000) (bH:m.length<=90000) :
  Calls Tryz.prog 24 #[.agg #[.int .i64 t.kind,.string t.text,.int .i64 t.cols,.slice A t.kids.length cap],.agg #[.slice Ap p.length cp,.slice Am m.length cm]] w (Zg w (Xd t p m)):=by
 obtain⟨W0,bU,bL,aQ,aP,bN⟩:=Ty t p m A Ap Am cap cp cm w;have aY:=hid aQ;have ax:=hid aP;have aL:=hid bL;have bn:=hid (RV t p m A Ap Am cap cp cm w);have CL:Hid (∀W,Below w.heap.size w W->Calls Tryz.prog 42 #[.agg #[.int .i64 t.kind,.string t.text,.int .i64 t.cols,.slice A t.kids.length cap],.agg #[.slice Ap p.length cp,.slice Am m.length cm]] W _):=fun W hW=>zSh t p m A Ap Am cap cp cm W (hv.below hW hW.size) bG bK (hp.below hW hW.size) (hm.below hW hW.size) bD bH
 have HE:=hid (zS4 t p m);obtain⟨ah,aC⟩:∃ah,Xd t p m=ah:=⟨_,rfl⟩;rw[aC] at HE ⊢;obtain⟨m0,m1,m2,m3,n0,n1⟩:=bn.out W0 aQ aP;clear hv bG bK hp hm bD bH bL aQ aP aC;go_enter Tryz.func24,Tryz.ntmps24
 go_wp2_with fail
 refine(CL.out _ aL.out).mono ?_;rintro e w1 ⟨aB,h1⟩;have HG:=hid (bN.out.below aB);have aY:=hid (aY.out.below aB);have ax:=hid (ax.out.below aB);have aK:=hid (aL.out.trans (aB.mono aL.out.size));clear aB m0 m1 m2 m3 n0 n1 CL aL bU bN;rcases h1 with ⟨he,rfl⟩|⟨he,rr,Ar,cr,ra,rb,q,A1,o,its,Ai,ci,ar,q2,A2,c2,i,s,it,A3,c3,rfl,aa⟩
 ·have HR:=hid (HE.out.1 he);have hse:((ZI t p m).2 != 0)=true:=by simp[he]
  clear HE he;generalize (ZI t p m).2=se at *
  go_upto_region 2 with (first
   |(refine sR 69 6 13 (Z5.at0 _ _) ?_)
   |fail)
  generalize hX:World.setRow _ _ _=X;have df:=hid (Te hX aK.out);have HG:=hid (Td hX HG.out);clear hX
  go_wp2_with (first
   |(refine sR 35 4 17 HG.out ?_)
   |fail)
  refine Yr Tryz.results24 Tryz.underlying35 (.int .i64 se) (HG.out.row _) ?_;rw[HR.out];exact Uy se (YV df.out (by omega) _)
 have aO:(ZI t p m).2=0:=by rw[aa.of]
 have aF:=hid (zT3 aa);have aN:=hid aa.ar0;have aM:=hid aa.ar1;simp only at aN aM aF;have aW:=hid (HE.out.2.1 aO);have aU:=hid (fun a b c d e=>HE.out.2.2 a b c d e aO);simp only[UB];clear HE he aO
 go_upto_region 2 with (first
  |(refine sR 69 6 13 (Z5.at0 _ _) ?_)
  |fail)
 generalize hX:World.setRow _ _ _=X;have ae:=YL hX;have au:=hid (XK hX);have bQ:=HG;have HG:=hid (HG.out.below ae);have ax:=hid (ax.out.below ae);have aD:=hid (aK.out.trans (ae.mono aK.out.size));have av:=hid (aa.bl ae);have hf:=RI aa;simp only at hf;have HF:=hid hf;have bi:Hid (w1.heap.size≠w.heap.size+1+1):=fun e=>Nat.lt_irrefl _ (e ▸ bQ.out.lt)
 obtain⟨gs,bI⟩:∃gs,w1.heap.size=gs:=⟨_,rfl⟩;simp only[bI] at au bi ⊢;clear hX ae aa bI aK hf aY bQ;cases ar
 case false =>
  have HR:=hid (aW.out (aN.out rfl));have bA:X.cell? ⟨gs,12,none⟩=some (.bool false):=au.out.cell 12;clear aW aU aN aM
  go_wp2_with (first
   |(refine sR 35 4 22 HG.out ?_)
   |fail)
  refine Yr Tryz.results24 Tryz.underlying35 (.int .i64 8) (HG.out.row _) ?_;rw[HR.out];exact Uy 8 (YV aD.out (by omega) _)
 case true =>
 have bA:X.cell? ⟨gs,12,none⟩=some (.bool true):=au.out.cell 12;obtain⟨a1,bB,a3,a4,s',rfl,a6,a7⟩:=aM.out rfl;have HR:=hid (aU.out q2 i s' it its a1 a6 a7);have hq:p.length=q2.length+3:=by have h1:=av.out.pe;simp only at h1;rw[h1,a4];simp
 have ag:Hid (q2.length<=60/\p.length<=24/\0<=i/\i<=1000/\its.length<=1000/\(s':Int)<=1000):=⟨by have:=aF.out;omega,aF.out.1,(HF.out.2.2.2.2.2.2.2.1 rfl).1,(HF.out.2.2.2.2.2.2.2.1 rfl).2.1,HF.out.2.1,by have:=Yz it;omega⟩;have cO:Hid (ZT [Zp it s' []]<=1000000):=by
  have h9:=Tf it s' (Z6 []) 1 (fun _=>by show 1+0<=_;omega);show ZW (Y0 it s' (Z6 []))+0<=_;omega
 have bM:Hid (∀W,Below X.heap.size X W->Calls Tryz.prog 56 #[.agg #[.int .i64 t.kind,.string t.text,.int .i64 t.cols,.slice A t.kids.length cap,.slice Ap p.length cp,.slice Am m.length cm,.slice Ar rr.length cr,.int .i64 ra,.int .i64 rb,.slice A1 q.length cp,.int .i64 o,.slice Ai its.length ci,.bool true,.slice A2 q2.length c2,.int .i64 i,.int .i64 (s':Int),.int .i64 it.kind,.string it.text,.int .i64 it.cols,.slice A3 it.kids.length c3]] W (Q3 (Lt W.heap.size) W ⟨4,q2,i,its.length,[Zp it s' []],(s':Int),ZQ,ZQ⟩)):=fun W hW =>
  zU3 (Lt W.heap.size) it its q2 i s' A2 A3 c2 c3 _ _ _ _ _ _ _ _ _ _ _ _ _ W (av.out.bl hW).it bB (by omega) ((av.out.bl hW).q2.keep (fun _ _=>rfl) (fun k hk=>⟨hk,hk⟩)) a6 a7
 generalize Zp it s' []=FL at *;obtain⟨pos,aj⟩:∃pos,Uz ⟨4,q2,i,(its.length:Int),[FL],(s':Int),ZQ,ZQ⟩ p false=pos:=⟨_,rfl⟩;rw[aj] at HR;have bP:Hid (WN ⟨4,q2,i,(its.length:Int),[FL],(s':Int),ZQ,ZQ⟩ p false=pos):=(zSz _ _ _).trans aj;have HL:Hid (pos.length+([]:List Int).length<=100000):=by
  have h9:=VG ⟨4,q2,i,(its.length:Int),[FL],(s':Int),ZQ,ZQ⟩ p false ag.out.1;rw[bP.out] at h9;have:=ag.out;show _+0<=_;omega
 have cu:=hid aF.out.2;clear aW aU aN aM a1 bB a3 a4 a6 a7 hq aj aF HF
 go_upto_region 7 with (first
  |(refine lR 69 6 au.out Tryz.underlying69 ?_)
  |(go_at_call 56;refine Calls.mono (bM.out _ (QQ _ _)) ?_;rintro e w9 ⟨Ao,co,An,cn,rfl,bC,aA,ai⟩;have ay:=hid (QS (Z8.keep bC (fun _ _=>rfl) (fun k hk=>hk.1:∀k,_->Lt w9.heap.size k)) (Z8.keep aA (fun _ _=>rfl) (fun k hk=>hk.1:∀k,_->Lt w9.heap.size k)));have aJ:=hid ai;clear bC aA ai)
  |(refine sR 49 8 24 (Z5.at0 _ _) ?_)
  |fail)
 generalize hV:World.setRow _ _ _=V;have ae:Below w9.heap.size w9 V:=by rw[<-hV];exact YV (ZX w9 _) (QT _) _
 have aX:Hid (Z5 V w9.heap.size (.cells #[.int .i64 4,.slice Ao q2.length co,.int .i64 i,.int .i64 (its.length:Int),.slice An [FL].length cn,.int .i64 (s':Int),.string ZQ,.string ZQ] 49)):=by show Z5 _ _ _;rw[<-hV];exact(Z5.at0 w9 _).row _
 have HG:=hid (HG.out.below aJ.out);have aZ:Hid (w9.heap.size≠w.heap.size+1+1):=fun e=>Nat.lt_irrefl _ (e ▸ HG.out.lt)
 have HG:=hid (HG.out.below ae);have af:=aJ.out.trans (ae.mono aJ.out.size);have ax:=hid (ax.out.below af);have au:=hid (au.out.below af);have cB:=bi;have av:=hid (av.out.bl af);have ay:=hid (QS (ay.out.1.below ae ae.size) (ay.out.2.below ae ae.size));have aD:=hid (aD.out.trans (af.mono aD.out.size));have HO:Hid (Z0 V (NF (fun _=>False) V) q2 (.slice Ao q2.length co)/\Z8 Z7 V (NF (fun _=>False) V) [FL] (.slice An [FL].length cn)):=⟨ay.out.1.keep (fun _ _=>rfl) (fun k hk=>⟨hk,id⟩),ay.out.2.keep (fun _ _=>rfl) (fun k hk=>⟨hk,id⟩)⟩;obtain⟨gd,bJ⟩:∃gd,w9.heap.size=gd:=⟨_,rfl⟩;simp only[bJ] at aX aZ ⊢;have HW:Hid (Below V.heap.size V V):=hid (QQ _ _);have cZ:=hid (fun W B (hW:Below V.heap.size V W) hb=>(zPi av.out hW hb (by simp)).mono (fun e w' (h:Zg V _ e w')=>(by rw[HR.out];exact h:Zg V ah e w')):∀W B,Below V.heap.size V W->BA V W B #[.int .i64 t.kind,.string t.text,.int .i64 t.cols,.slice A t.kids.length cap,.slice Ap p.length cp,.slice Am m.length cm,.slice Ar rr.length cr,.int .i64 ra,.int .i64 rb,.slice A1 q.length cp,.int .i64 o,.slice Ai its.length ci,.bool true,.slice A2 q2.length c2,.int .i64 i,.int .i64 (s':Int),.int .i64 it.kind,.string it.text,.int .i64 it.cols,.slice A3 it.kids.length c3] [⟨4,q2,i,(its.length:Int),[FL],(s':Int),ZQ,ZQ⟩] pos []->Calls Tryz.prog 48 #[.pointer (some ⟨B,0,none⟩)] W (Zg V ah));have cK:Hid (∀W,Below V.heap.size V W->Calls Tryz.prog 57 #[.agg #[.int .i64 4,.slice Ao q2.length co,.int .i64 i,.int .i64 (its.length:Int),.slice An [FL].length cn,.int .i64 (s':Int),.string ZQ,.string ZQ],.slice Ap p.length cp,.bool false] W (zTa W pos)):=fun W hW=>by
  have h9:=VF ⟨4,q2,i,(its.length:Int),[FL],(s':Int),ZQ,ZQ⟩ p false Ao An Ap co cn cp W ⟨by have:=ag.out;unfold Bd;simp only;omega,by have:=ag.out;unfold Bd;simp only;omega,by have:=ag.out;unfold Bd;simp only;omega,by simp,by have:=ag.out;simp only;omega⟩ (ay.out.1.below hW hW.size) ((av.out.bl hW).p) (by have:=ag.out;omega) cu.out;rwa[bP.out] at h9
 clear hV ae bJ af aJ bM bi bA;refine wp_region_noPanic ?_;refine wp_region_held_drew (S:=fun w'=>ZZ (fun k=>k=w.heap.size+1+1) V w') (by kernel_rfl) (kwt HW.out) (fun hHeld=>?_);refine tr 0 25 69 6 rfl (fun w hS=>hS.obj au.out cB.out) Tryz.underlying69 ?_;refine tr 2 27 49 8 rfl (fun w hS=>hS.obj aX.out aZ.out) Tryz.underlying49 ?_;refine tr 4 29 49 8 rfl (fun w hS=>hS.obj aX.out aZ.out) Tryz.underlying49 ?_;refine tk 5 30 rfl ?_;refine tk 6 31 rfl ?_ (hy:=Or.inl ⟨by rfl,fun W hS=>by have h:W.cell? ⟨(w.heap.size+1),0,none⟩=some (.slice Ap p.length cp):=(hS.obj ax.out (Nat.ne_of_lt (Nat.lt_succ_self _))).cell 0;clear hS;go_simp;try with_reducible rfl⟩);refine r1 1 (some 26) rfl (fun K hK=>?_);go_simp;refine Calls.mono (RU _ _ _ _ _ _ _ _ _ _ _ _ _ _ _ _ _ _ _ _ V _ (bwt HW.out)) ?_;rintro e wk ⟨B,F,rfl,ak,aa⟩
 try have HO:=hid (QS (aa.keep (YZ bw HO.out.1)) (aa.keep (YZ bw HO.out.2)))
 try have HR:=hid (Ym.keep aa (YZ bw HR.out))
 have HB:=hid ak;have bR:=HB;have HW:=hid ak.below;clear aa ak;refine hK.out _ _ (kwt HW.out) (fun hHeld=>?_);clear hK K;refine r1 3 (some 28) rfl (fun K hK=>?_);go_simp;refine Calls.mono (TQ (HB.out.bl bw) ⟨4,q2,i,(its.length:Int),[FL],(s':Int),ZQ,ZQ⟩ _ _ _ _ (by simp) (Xf (YZ bw HO.out.1)) (Xf (YZ bw HO.out.2)) (by have:=ag.out;show q2.length<=_;omega) cO.out (by simp[Z4]) (YS (by have:=ag.out;show _<=i/\i<=_;omega)) (YS (by have:=ag.out;show _<=(its.length:Int)/\(its.length:Int)<=_;omega)) (YS (by have:=ag.out;show _<=(s':Int)/\(s':Int)<=_;omega)) (QU _) (QU _)) ?_;rintro e wk ⟨F,rfl,ak,aa⟩
 try have HR:=hid (Ym.keep aa (YZ bw HR.out))
 have HB:=hid ak;have bR:=HB;have HW:=hid ak.below;clear aa ak
 iterate 4 (try clear HO)
 refine hK.out _ _ (kwt HW.out) (fun hHeld=>?_);clear hK K;refine r1 7 (some 32) rfl (fun K hK=>?_);go_simp;refine Calls.mono (cK.out _ (bwt HW.out)) ?_;rintro e wk ⟨v9,rfl,aG,ai⟩;obtain⟨Aq,cq,rfl⟩:=aG.form
 first|have HR:=hid (VH (BS.bl HB.out bw).hi aG)|have HR:=hid (VH (F:=fun _=>False) (fun _ h=>h.elim) aG)
 try have HO:=hid (QS (YZ ai (YZ bw HO.out.1)) (YZ ai (YZ bw HO.out.2)))
 try have HB:=hid (BS.bl (BS.bl HB.out bw) ai)
 try have bR:=HB
 have HW:=hid ((bwt HW.out).trans (ai.mono (bwt HW.out).size));clear aG ai;refine hK.out _ _ (kwt HW.out) (fun hHeld=>?_);clear hK K;refine r1 8 (some 33) rfl (fun K hK=>?_);go_simp;refine Calls.mono (UI (HB.out.bl bw) pos [] Aq none cq 0 (Xf (YZ bw HR.out)) (Z8.nil_ 0 (QU _) none) HL.out) ?_;rintro e wk ⟨rfl,aH⟩;rw[List.append_nil] at aH;have HB:=hid aH;have HW:=hid aH.below;clear aH;refine hK.out _ _ (kwt HW.out) (fun hHeld=>?_);clear hK K
 try simp only[qP,qN,qS,qZ,qC]
 rotate_left
 all_goals
  refine r1 9 (some 34) rfl (fun K hK=>?_);go_simp;refine Calls.mono (cZ.out _ _ (bwt HW.out) (HB.out.bl bw)) ?_;rintro e wk az;have aV:=hid az;obtain⟨dm,bY,dh,bW,dn,bZ,bu,aS,bz,aT,rfl,_,_,_,_,_,aR⟩:=az;have HW:=hid aR;have bg:=hid (HG.out.below aR);clear aR;refine hK.out _ _ (kwt HW.out) (fun hHeld=>?_);clear hK K;refine tk 10 35 rfl ?_;refine tk 11 36 rfl ?_;refine r1 12 none rfl (fun K hK=>?_);rw[if_pos (by rfl)];refine wp_store_row 35 (.tmp 4) (.tmp 35) rfl (w.heap.size+1+1) #[.slice dm ah.1.ops.length bY,.slice dh ah.1.bp.length bW,.slice dn ah.1.bm.length bZ,.slice bu ah.1.ap.length aS,.slice bz ah.1.am.length aT] rfl rfl 35 _ bg.out (by kernel_rfl) (by simp) (by simp[Value.oneCell']) ?_;refine Wv bg.out (fun X9 aI=>?_);refine hK.out _ _ ((kwt HW.out).trans' aI.out.1) (fun hHeld=>?_);clear hK K;refine tk 13 5 rfl ?_;refine wpAnyH_done (by kernel_rfl) ?_ _;refine NoPanic.normal ?_
 all_goals
  go_wp2_with fail
  refine Yr Tryz.results24 Tryz.underlying35 (.int .i64 ah.2) aI.out.2.1 ?_;exact Zg.put (arr:=#[]) aV.out bg.out aI.out.1 aI.out.2.2 aD.out (by omega)
