/- T -/
import Derived.Test.YthpngeboknmllaaGreatQ24ea
set_option linter.unusedVariables false
set_option linter.unusedSimpArgs false
set_option maxHeartbeats 16000000
set_option maxRecDepth 100000
namespace Go.Proofs.YthpngeboknmllaaGreat
open Go.RowKit
theorem U1 {α:Type} {E:YA α} {F:Nat->Prop} {X w':World} {xs:List α} {v:Value} (aa:∀k,F k->k<X.heap.size) (h:Z8 E w' (fun k=>X.heap.size<=k/\k<w'.heap.size) xs v):Z8 E w' (NF F w') xs v :=
 h.keep (fun _ _=>rfl) (fun k hk=>⟨hk.2,fun e=>absurd (aa k e) (by omega)⟩)
theorem zS4 (t:Z9) (p m:List Int):((ZK t p m).2≠0->TL t p m=(ZB,(ZK t p m).2))/\((ZK t p m).2=0->Y5 t p=none->TL t p m=(ZB,8)) /\
  (∀q2 i (s':Nat) it its,(ZK t p m).2=0->Y5 t p=some ⟨q2,i,(s':Int),it⟩->(h:s'<it.kids.length)->it.kids[s']=Z7 its->TL t p m=YE t p m [⟨4,q2,i,(its.length:Int),[Zj it s' []],(s':Int),Zz,Zz⟩] (TV ⟨4,q2,i,(its.length:Int),[Zj it s' []],(s':Int),Zz,Zz⟩ p false) []):=by
 refine⟨fun h=>?_,fun h h1=>?_,fun q2 i s' it its h h1 h2 h3=>?_⟩
 ·unfold TL;rw[if_pos h]
 ·unfold TL;rw[if_neg (by simp[h]),h1]
 unfold TL;rw[if_neg (by simp[h]),h1];simp only;have hk:(ZZ it (s':Int)).kids=its:=by rw[Yi (by simpa using h2)];simp only[Int.toNat_natCast];rw[h3];rfl
 have hu:YL ⟨q2,i,(s':Int),it⟩=⟨4,q2,i,(its.length:Int),[Zj it s' []],(s':Int),Zz,Zz⟩:=by
  unfold YL;simp only[hk,Int.toNat_natCast]
 rw[hu];rfl
theorem zT3 {w:World} {d:RP} (h:Sb w d):d.p.length<=24/\∀x∈d.p,Bd 1152921504606846976 x:=by
 have hf:=Tz h;obtain⟨h1,h2⟩:=zKd d.t d.p hf.2.2.2.2.2.2.1;have h3:=Yb hf.1;refine⟨by omega,fun x hx=>?_⟩;have:=h2 x hx;unfold Bd;omega
theorem zTy (t:Z9) (p m:List Int) (A Ap Am:Option Addr) (cap cp cm:Nat) (w:World) (hv:Z8 Z6 w (Lt w.heap.size) t.kids (.slice A t.kids.length cap)) (bI:Zk t) (bM:ZR t<=900000) (hp:Z0 w (Lt w.heap.size) p (.slice Ap p.length cp)) (hm:Z0 w (Lt w.heap.size) m (.slice Am m.length cm)) (bH:p.length<=90000) (bJ:m.length<=90000) :
  Calls Tryz.prog 24 #[.agg #[.int .i64 t.kind,.string t.text,.int .i64 t.cols,.slice A t.kids.length cap],.agg #[.slice Ap p.length cp,.slice Am m.length cm]] w (ZC w (TL t p m)):=by
 obtain⟨W0,aF⟩:∃W0,((w.alloc (.cells #[.int .i64 t.kind,.string t.text,.int .i64 t.cols,.slice A t.kids.length cap] 24)).alloc (.cells #[.slice Ap p.length cp,.slice Am m.length cm] 27)).alloc (.cells #[.slice none 0 0,.slice none 0 0,.slice none 0 0,.slice none 0 0,.slice none 0 0] 35)=W0:=⟨_,rfl⟩;have bN:Below w.heap.size w W0:=by rw[<-aF];exact Zy (Zy (ZW _ _) _) _
 have aW:Z5 W0 w.heap.size (.cells #[.int .i64 t.kind,.string t.text,.int .i64 t.cols,.slice A t.kids.length cap] 24):=by rw[<-aF];exact((Z5.at0 _ _).al _).al _
 have aV:Z5 W0 (w.heap.size+1) (.cells #[.slice Ap p.length cp,.slice Am m.length cm] 27):=by rw[<-aF];exact(Z5.at1 _ _ _).al _
 have bq:=hid aW;have ay:=hid aV;have bW:Hid (Z5 W0 (w.heap.size+1+1) (.cells #[.slice none 0 0,.slice none 0 0,.slice none 0 0,.slice none 0 0,.slice none 0 0] 35)):=by show Z5 _ _ _;rw[<-aF];exact Z5.at2 _ _ _ _
 have aR:=hid bN;have bB:Hid (∀W,Z5 W w.heap.size (.cells #[.int .i64 t.kind,.string t.text,.int .i64 t.cols,.slice A t.kids.length cap] 24)->Z5 W (w.heap.size+1) (.cells #[.slice Ap p.length cp,.slice Am m.length cm] 27)->W.cell? ⟨w.heap.size,0,none⟩=some (.int .i64 t.kind)/\W.cell? ⟨w.heap.size,1,none⟩=some (.string t.text)/\W.cell? ⟨w.heap.size,2,none⟩=some (.int .i64 t.cols)/\W.cell? ⟨w.heap.size,3,none⟩=some (.slice A t.kids.length cap)/\W.cell? ⟨w.heap.size+1,0,none⟩=some (.slice Ap p.length cp)/\W.cell? ⟨w.heap.size+1,1,none⟩=some (.slice Am m.length cm)):=fun W h1 h2=>⟨h1.cell 0,h1.cell 1,h1.cell 2,h1.cell 3,h2.cell 0,h2.cell 1⟩
 have CL:Hid (∀W,Below w.heap.size w W->Calls Tryz.prog 42 #[.agg #[.int .i64 t.kind,.string t.text,.int .i64 t.cols,.slice A t.kids.length cap],.agg #[.slice Ap p.length cp,.slice Am m.length cm]] W _):=fun W hW=>QB t p m A Ap Am cap cp cm W (hv.below hW hW.size) bI bM (hp.below hW hW.size) (hm.below hW hW.size) bH bJ
 have HE:=hid (zS4 t p m);obtain⟨ae,aG⟩:∃ae,TL t p m=ae:=⟨_,rfl⟩;rw[aG] at HE ⊢;obtain⟨m0,m1,m2,m3,n0,n1⟩:=bB.out W0 aW aV;clear hv bI bM hp hm bH bJ bN aW aV aG;go_enter Tryz.func24,Tryz.ntmps24
 go_wp2_with fail
 refine(CL.out _ aR.out).mono ?_;rintro e w1 ⟨aD,h1⟩;have HG:=hid (bW.out.below aD);have bq:=hid (bq.out.below aD);have ay:=hid (ay.out.below aD);have aA:=hid (aR.out.trans (aD.mono aR.out.size));clear aD m0 m1 m2 m3 n0 n1 CL aR aF bW;rcases h1 with ⟨he,rfl⟩|⟨he,rr,Ar,cr,ra,rb,q,A1,o,its,Ai,ci,ar,q2,A2,c2,i,s,it,A3,c3,rfl,aa⟩
 ·have HR:=hid (HE.out.1 he);have hse:((ZK t p m).2 != 0)=true:=by simp[he]
  clear HE he;generalize (ZK t p m).2=se at *
  go_upto_region 2 with (first
   |(refine wpList_store_row rfl 69 (.tmp 6) (.tmp 13) rfl w1.heap.size _ rfl rfl 69 _ (Z5.at0 _ _) (by kernel_rfl) (by simp) (by simp[Value.oneCell']) ?_)
   |fail)
  generalize hX:World.setRow _ _ _=X;have dn:Hid (Below w.heap.size w X):=by show Below _ _ _;rw[<-hX];exact Y6 (aA.out.trans ((ZW w1 _).mono aA.out.size)) aA.out.size _
  have HG:Hid (Z5 X (w.heap.size+1+1) (.cells #[.slice none 0 0,.slice none 0 0,.slice none 0 0,.slice none 0 0,.slice none 0 0] 35)):=by show Z5 _ _ _;rw[<-hX];exact(setRow_other _ _ _ _ (Nat.ne_of_lt HG.out.lt)).trans (HG.out.al _)
  clear hX
  go_wp2_with (first
   |(refine wpList_store_row rfl 35 (.tmp 4) (.tmp 17) rfl (w.heap.size+1+1) _ rfl rfl 35 _ HG.out (by kernel_rfl) (by simp) (by simp[Value.oneCell']) ?_)
   |fail)
  refine bodyPost_ret (v:=.tuple #[.agg #[.slice none 0 0,.slice none 0 0,.slice none 0 0,.slice none 0 0,.slice none 0 0],.int .i64 se]) (Y1 Tryz.results24 _ _ _ (w.heap.size+1+1) 35 _ (0,0) _ rfl (HG.out.row _) rfl Tryz.underlying35 (by kernel_rfl) _ rfl) rfl ?_;rw[HR.out];exact XI se (Y6 dn.out (by omega) _)
 have aU:(ZK t p m).2=0:=by rw[aa.of]
 have aK:=hid (zT3 aa);have aT:=hid aa.ar0;have aS:=hid aa.ar1;simp only at aT aS aK;have bg:=hid (HE.out.2.1 aU);have aY:=hid (fun a b c d e=>HE.out.2.2 a b c d e aU);simp only[Vy];clear HE he aU
 go_upto_region 2 with (first
  |(refine wpList_store_row rfl 69 (.tmp 6) (.tmp 13) rfl w1.heap.size _ rfl rfl 69 _ (Z5.at0 _ _) (by kernel_rfl) (by simp) (by simp[Value.oneCell']) ?_)
  |fail)
 generalize hX:World.setRow _ _ _=X;have af:Below w1.heap.size w1 X:=by rw[<-hX];exact Y6 (ZW w1 _) (Qi _) _
 have av:Hid (Z5 X w1.heap.size (.cells #[.int .i64 t.kind,.string t.text,.int .i64 t.cols,.slice A t.kids.length cap,.slice Ap p.length cp,.slice Am m.length cm,.slice Ar rr.length cr,.int .i64 ra,.int .i64 rb,.slice A1 q.length cp,.int .i64 o,.slice Ai its.length ci,.bool ar,.slice A2 q2.length c2,.int .i64 i,.int .i64 s,.int .i64 it.kind,.string it.text,.int .i64 it.cols,.slice A3 it.kids.length c3] 69)):=by show Z5 _ _ _;rw[<-hX];exact(Z5.at0 w1 _).row _
 have bZ:=HG;have HG:=hid (HG.out.below af);have ay:=hid (ay.out.below af);have aJ:=hid (aA.out.trans (af.mono aA.out.size));have ax:=hid (aa.bl af);have hf:=Tz aa;simp only at hf;have HF:=hid hf;have bA:Hid (w1.heap.size≠w.heap.size+1+1):=fun e=>Nat.lt_irrefl _ (e ▸ bZ.out.lt)
 obtain⟨gs,bK⟩:∃gs,w1.heap.size=gs:=⟨_,rfl⟩;simp only[bK] at av bA ⊢;clear hX af aa bK aA hf bq bZ;cases ar
 case false =>
  have HR:=hid (bg.out (aT.out rfl));have bC:X.cell? ⟨gs,12,none⟩=some (.bool false):=av.out.cell 12;clear bg aY aT aS
  go_wp2_with (first
   |(refine wpList_store_row rfl 35 (.tmp 4) (.tmp 22) rfl (w.heap.size+1+1) _ rfl rfl 35 _ HG.out (by kernel_rfl) (by simp) (by simp[Value.oneCell']) ?_)
   |fail)
  refine bodyPost_ret (v:=.tuple #[.agg #[.slice none 0 0,.slice none 0 0,.slice none 0 0,.slice none 0 0,.slice none 0 0],.int .i64 8]) (Y1 Tryz.results24 _ _ _ (w.heap.size+1+1) 35 _ (0,0) _ rfl (HG.out.row _) rfl Tryz.underlying35 (by kernel_rfl) _ rfl) rfl ?_;rw[HR.out];exact XI 8 (Y6 aJ.out (by omega) _)
 case true =>
 have bC:X.cell? ⟨gs,12,none⟩=some (.bool true):=av.out.cell 12;obtain⟨a1,bD,a3,a4,s',rfl,a6,a7⟩:=aS.out rfl;have HR:=hid (aY.out q2 i s' it its a1 a6 a7);have hq:p.length=q2.length+3:=by have h1:=ax.out.pe;simp only at h1;rw[h1,a4];simp
 have ah:Hid (q2.length<=60/\p.length<=24/\0<=i/\i<=1000/\its.length<=1000/\(s':Int)<=1000):=⟨by have:=aK.out;omega,aK.out.1,(HF.out.2.2.2.2.2.2.2.1 rfl).1,(HF.out.2.2.2.2.2.2.2.1 rfl).2.1,HF.out.2.1,by have:=XW it;omega⟩;have di:Hid (ZQ [Zj it s' []]<=1000000):=by
  have h9:=zEm it s' (Z7 []) 1 (fun _=>by show 1+0<=_;omega);show ZR (Y3 it s' (Z7 []))+0<=_;omega
 have bU:Hid (∀W,Below X.heap.size X W->Calls Tryz.prog 56 #[.agg #[.int .i64 t.kind,.string t.text,.int .i64 t.cols,.slice A t.kids.length cap,.slice Ap p.length cp,.slice Am m.length cm,.slice Ar rr.length cr,.int .i64 ra,.int .i64 rb,.slice A1 q.length cp,.int .i64 o,.slice Ai its.length ci,.bool true,.slice A2 q2.length c2,.int .i64 i,.int .i64 (s':Int),.int .i64 it.kind,.string it.text,.int .i64 it.cols,.slice A3 it.kids.length c3]] W (OpP (Lt W.heap.size) W ⟨4,q2,i,its.length,[Zj it s' []],(s':Int),Zz,Zz⟩)):=fun W hW =>
  zU3 (Lt W.heap.size) it its q2 i s' A2 A3 c2 c3 _ _ _ _ _ _ _ _ _ _ _ _ _ W (ax.out.bl hW).it bD (by omega) ((ax.out.bl hW).q2.keep (fun _ _=>rfl) (fun k hk=>⟨hk,hk⟩)) a6 a7
 generalize Zj it s' []=FL at *;obtain⟨pos,ak⟩:∃pos,TV ⟨4,q2,i,(its.length:Int),[FL],(s':Int),Zz,Zz⟩ p false=pos:=⟨_,rfl⟩;rw[ak] at HR;have bY:Hid (XF ⟨4,q2,i,(its.length:Int),[FL],(s':Int),Zz,Zz⟩ p false=pos):=(QC _ _ _).trans ak;have HL:Hid (pos.length+([]:List Int).length<=100000):=by
  have h9:=U0 ⟨4,q2,i,(its.length:Int),[FL],(s':Int),Zz,Zz⟩ p false ah.out.1;rw[bY.out] at h9;have:=ah.out;show _+0<=_;omega
 have cZ:=hid aK.out.2;clear bg aY aT aS a1 bD a3 a4 a6 a7 hq ak aK HF
 go_upto_region 7 with (first
  |(refine wpList_load_row rfl 69 (.tmp 6) rfl gs rfl 69 _ (0,0) _ av.out Tryz.underlying69 rfl (by kernel_rfl) ?_)
  |(go_at_call 56;refine Calls.mono (bU.out _ (Qg _ _)) ?_;rintro e w9 ⟨Ao,co,An,cn,rfl,bG,aC,aj⟩;have az:=hid (Qh (Z8.keep bG (fun _ _=>rfl) (fun k hk=>hk.1:∀k,_->Lt w9.heap.size k)) (Z8.keep aC (fun _ _=>rfl) (fun k hk=>hk.1:∀k,_->Lt w9.heap.size k)));have aQ:=hid aj;clear bG aC aj)
  |(refine wpList_store_row rfl 49 (.tmp 8) (.tmp 24) rfl w9.heap.size _ rfl rfl 49 _ (Z5.at0 _ _) (by kernel_rfl) (by simp) (by simp[Value.oneCell']) ?_)
  |fail)
 generalize hV:World.setRow _ _ _=V;have af:Below w9.heap.size w9 V:=by rw[<-hV];exact Y6 (ZW w9 _) (Qi _) _
 have bn:Hid (Z5 V w9.heap.size (.cells #[.int .i64 4,.slice Ao q2.length co,.int .i64 i,.int .i64 (its.length:Int),.slice An [FL].length cn,.int .i64 (s':Int),.string Zz,.string Zz] 49)):=by show Z5 _ _ _;rw[<-hV];exact(Z5.at0 w9 _).row _
 have HG:=hid (HG.out.below aQ.out);have bu:Hid (w9.heap.size≠w.heap.size+1+1):=fun e=>Nat.lt_irrefl _ (e ▸ HG.out.lt)
 have HG:=hid (HG.out.below af);have ag:=aQ.out.trans (af.mono aQ.out.size);have ay:=hid (ay.out.below ag);have av:=hid (av.out.below ag);have df:=bA;have ax:=hid (ax.out.bl ag);have az:=hid (Qh (az.out.1.below af af.size) (az.out.2.below af af.size));have aJ:=hid (aJ.out.trans (ag.mono aJ.out.size));have HO:Hid (Z0 V (NF (fun _=>False) V) q2 (.slice Ao q2.length co)/\Z8 Z6 V (NF (fun _=>False) V) [FL] (.slice An [FL].length cn)):=⟨az.out.1.keep (fun _ _=>rfl) (fun k hk=>⟨hk,id⟩),az.out.2.keep (fun _ _=>rfl) (fun k hk=>⟨hk,id⟩)⟩;obtain⟨gd,bL⟩:∃gd,w9.heap.size=gd:=⟨_,rfl⟩;simp only[bL] at bn bu ⊢;have HW:Hid (Below V.heap.size V V):=hid (Qg _ _);have dm:=hid (fun W B (hW:Below V.heap.size V W) hb=>(RD ax.out hW hb (by simp)).mono (fun e w' (h:ZC V _ e w')=>(by rw[HR.out];exact h:ZC V ae e w')):∀W B,Below V.heap.size V W->BA V W B #[.int .i64 t.kind,.string t.text,.int .i64 t.cols,.slice A t.kids.length cap,.slice Ap p.length cp,.slice Am m.length cm,.slice Ar rr.length cr,.int .i64 ra,.int .i64 rb,.slice A1 q.length cp,.int .i64 o,.slice Ai its.length ci,.bool true,.slice A2 q2.length c2,.int .i64 i,.int .i64 (s':Int),.int .i64 it.kind,.string it.text,.int .i64 it.cols,.slice A3 it.kids.length c3] [⟨4,q2,i,(its.length:Int),[FL],(s':Int),Zz,Zz⟩] pos []->Calls Tryz.prog 48 #[.pointer (some ⟨B,0,none⟩)] W (ZC V ae));have dh:Hid (∀W,Below V.heap.size V W->Calls Tryz.prog 57 #[.agg #[.int .i64 4,.slice Ao q2.length co,.int .i64 i,.int .i64 (its.length:Int),.slice An [FL].length cn,.int .i64 (s':Int),.string Zz,.string Zz],.slice Ap p.length cp,.bool false] W (zTa W pos)):=fun W hW=>by
  have h9:=UZ ⟨4,q2,i,(its.length:Int),[FL],(s':Int),Zz,Zz⟩ p false Ao An Ap co cn cp W ⟨by have:=ah.out;unfold Bd;simp only;omega,by have:=ah.out;unfold Bd;simp only;omega,by have:=ah.out;unfold Bd;simp only;omega,by simp,by have:=ah.out;simp only;omega⟩ (az.out.1.below hW hW.size) ((ax.out.bl hW).p) (by have:=ah.out;omega) cZ.out;rwa[bY.out] at h9
 clear hV af bL ag aQ bU bA bC;refine wp_region_noPanic ?_;refine wp_region_held_drew (S:=fun w'=>ZY (fun k=>k=w.heap.size+1+1) V w') (by kernel_rfl) (kwt HW.out) (fun hHeld=>?_);refine wpAnyH_take (i:=0) (oi:=⟨some 25,_,_,_,_,_⟩) (v:=_) rfl (by kernel_rfl) (by kernel_rfl) (by kernel_rfl) (fun _ _ _ h=>h) (Xh 69 (.tmp 6) rfl (by rfl) _ rfl (fun w hS=>hS.obj av.out df.out) Tryz.underlying69 (by kernel_rfl)) hHeld ?_
 try simp only[qP,qN,qS,qZ,qC]
 refine wpAnyH_take (i:=2) (oi:=⟨some 27,_,_,_,_,_⟩) (v:=_) rfl (by kernel_rfl) (by kernel_rfl) (by kernel_rfl) (fun _ _ _ h=>h) (Xh 49 (.tmp 8) rfl (by rfl) _ rfl (fun w hS=>hS.obj bn.out bu.out) Tryz.underlying49 (by kernel_rfl)) hHeld ?_
 try simp only[qP,qN,qS,qZ,qC]
 refine wpAnyH_take (i:=4) (oi:=⟨some 29,_,_,_,_,_⟩) (v:=_) rfl (by kernel_rfl) (by kernel_rfl) (by kernel_rfl) (fun _ _ _ h=>h) (Xh 49 (.tmp 8) rfl (by rfl) _ rfl (fun w hS=>hS.obj bn.out bu.out) Tryz.underlying49 (by kernel_rfl)) hHeld ?_
 try simp only[qP,qN,qS,qZ,qC]
 refine wpAnyH_take (i:=5) (oi:=⟨some 30,_,_,_,_,_⟩) (v:=_) rfl (by kernel_rfl) (by kernel_rfl) (by kernel_rfl) (fun _ _ _ h=>h) (Or.inl ⟨by rfl,fun w hS=>by clear hS;go_simp;try with_reducible rfl⟩) hHeld ?_
 try simp only[qP,qN,qS,qZ,qC]
 refine wpAnyH_take (i:=6) (oi:=⟨some 31,_,_,_,_,_⟩) (v:=_) rfl (by kernel_rfl) (by kernel_rfl) (by kernel_rfl) (fun _ _ _ h=>h) (Or.inl ⟨by rfl,fun W hS=>by have h:W.cell? ⟨(w.heap.size+1),0,none⟩=some (.slice Ap p.length cp):=(hS.obj ay.out (Nat.ne_of_lt (Nat.lt_succ_self _))).cell 0;clear hS;go_simp;try with_reducible rfl⟩) hHeld ?_
 try simp only[qP,qN,qS,qZ,qC]
 refine wpAnyH_ready (rs:=[1]) (by kernel_rfl) (by simp) ?_;refine(AllReadyH.cons (o:=⟨some 26,_,_,_,_,_⟩) rfl (fun K hK=>?_) AllReadyH.nil);go_simp;refine Calls.mono (Wx _ _ _ _ _ _ _ _ _ _ _ _ _ _ _ _ _ _ _ _ V _ (bwt HW.out)) ?_;rintro e wk ⟨B,F,rfl,au,aa⟩
 try have HO:=hid (Qh (aa.keep (Zv bw HO.out.1)) (aa.keep (Zv bw HO.out.2)))
 try have HR:=hid (YX.keep aa (Zv bw HR.out))
 have HB:=hid au;have cu:=HB;have HW:=hid au.below;clear aa au;refine hK.out _ _ (kwt HW.out) (fun hHeld=>?_);clear hK K
 try simp only[qP,qN,qS,qZ,qC]
 refine wpAnyH_ready (rs:=[3]) (by kernel_rfl) (by simp) ?_;refine(AllReadyH.cons (o:=⟨some 28,_,_,_,_,_⟩) rfl (fun K hK=>?_) AllReadyH.nil);go_simp;refine Calls.mono (XO (HB.out.bl bw) ⟨4,q2,i,(its.length:Int),[FL],(s':Int),Zz,Zz⟩ _ _ _ _ (by simp) (YZ (Zv bw HO.out.1)) (YZ (Zv bw HO.out.2)) (by have:=ah.out;show q2.length<=_;omega) di.out (by simp[Z4]) (YU (by have:=ah.out;show _<=i/\i<=_;omega)) (YU (by have:=ah.out;show _<=(its.length:Int)/\(its.length:Int)<=_;omega)) (YU (by have:=ah.out;show _<=(s':Int)/\(s':Int)<=_;omega)) (Qj _) (Qj _)) ?_;rintro e wk ⟨F,rfl,au,aa⟩
 try have HR:=hid (YX.keep aa (Zv bw HR.out))
 have HB:=hid au;have cu:=HB;have HW:=hid au.below;clear aa au
 iterate 4 (try clear HO)
 refine hK.out _ _ (kwt HW.out) (fun hHeld=>?_);clear hK K
 try simp only[qP,qN,qS,qZ,qC]
 refine wpAnyH_ready (rs:=[7]) (by kernel_rfl) (by simp) ?_;refine(AllReadyH.cons (o:=⟨some 32,_,_,_,_,_⟩) rfl (fun K hK=>?_) AllReadyH.nil);go_simp;refine Calls.mono (dh.out _ (bwt HW.out)) ?_;rintro e wk ⟨v9,rfl,aN,aj⟩;obtain⟨Aq,cq,rfl⟩:=aN.form
 first|have HR:=hid (U1 (BS.bl HB.out bw).hi aN)|have HR:=hid (U1 (F:=fun _=>False) (fun _ h=>h.elim) aN)
 try have HO:=hid (Qh (Zv aj (Zv bw HO.out.1)) (Zv aj (Zv bw HO.out.2)))
 try have HB:=hid (BS.bl (BS.bl HB.out bw) aj)
 try have cu:=HB
 have HW:=hid ((bwt HW.out).trans (aj.mono (bwt HW.out).size));clear aN aj;refine hK.out _ _ (kwt HW.out) (fun hHeld=>?_);clear hK K
 try simp only[qP,qN,qS,qZ,qC]
 refine wpAnyH_ready (rs:=[8]) (by kernel_rfl) (by simp) ?_;refine(AllReadyH.cons (o:=⟨some 33,_,_,_,_,_⟩) rfl (fun K hK=>?_) AllReadyH.nil);go_simp;refine Calls.mono (XN (HB.out.bl bw) pos [] Aq none cq 0 (YZ (Zv bw HR.out)) (Z8.nil_ 0 (Qj _) none) HL.out) ?_;rintro e wk ⟨rfl,aO⟩;rw[List.append_nil] at aO;have HB:=hid aO;have HW:=hid aO.below;clear aO;refine hK.out _ _ (kwt HW.out) (fun hHeld=>?_);clear hK K
 try simp only[qP,qN,qS,qZ,qC]
 rotate_left
 all_goals
  refine wpAnyH_ready (rs:=[9]) (by kernel_rfl) (by simp) ?_;refine(AllReadyH.cons (o:=⟨some 34,_,_,_,_,_⟩) rfl (fun K hK=>?_) AllReadyH.nil);go_simp;refine Calls.mono (dm.out _ _ (bwt HW.out) (HB.out.bl bw)) ?_;rintro e wk aB;have aZ:=hid aB;obtain⟨cK,bQ,cB,bP,cO,bR,aL,aH,aM,aI,rfl,_,_,_,_,_,aX⟩:=aB;have HW:=hid aX;have bz:=hid (HG.out.below aX);clear aX;refine hK.out _ _ (kwt HW.out) (fun hHeld=>?_);clear hK K
  try simp only[qP,qN,qS,qZ,qC]
  refine wpAnyH_take (i:=10) (oi:=⟨some 35,_,_,_,_,_⟩) (v:=_) rfl (by kernel_rfl) (by kernel_rfl) (by kernel_rfl) (fun _ _ _ h=>h) (Or.inl ⟨by rfl,fun w hS=>by clear hS;go_simp;try with_reducible rfl⟩) hHeld ?_
  try simp only[qP,qN,qS,qZ,qC]
  refine wpAnyH_take (i:=11) (oi:=⟨some 36,_,_,_,_,_⟩) (v:=_) rfl (by kernel_rfl) (by kernel_rfl) (by kernel_rfl) (fun _ _ _ h=>h) (Or.inl ⟨by rfl,fun w hS=>by clear hS;go_simp;try with_reducible rfl⟩) hHeld ?_
  try simp only[qP,qN,qS,qZ,qC]
  refine wpAnyH_ready (rs:=[12]) (by kernel_rfl) (by simp) ?_;refine(AllReadyH.cons (o:=⟨none,_,_,_,_,_⟩) rfl (fun K hK=>?_) AllReadyH.nil);rw[if_pos (by rfl)];refine wp_store_row 35 (.tmp 4) (.tmp 35) rfl (w.heap.size+1+1) #[.slice cK ae.1.ops.length bQ,.slice cB ae.1.bp.length bP,.slice cO ae.1.bm.length bR,.slice aL ae.1.ap.length aH,.slice aM ae.1.am.length aI] rfl rfl 35 _ bz.out (by kernel_rfl) (by simp) (by simp[Value.oneCell']) ?_;refine Rx bz.out (fun X9 aP=>?_);refine hK.out _ _ ((kwt HW.out).trans' aP.out.1) (fun hHeld=>?_);clear hK K
  try simp only[qP,qN,qS,qZ,qC]
  refine wpAnyH_take (i:=13) (oi:=⟨some 5,_,_,_,_,_⟩) (v:=_) rfl (by kernel_rfl) (by kernel_rfl) (by kernel_rfl) (fun _ _ _ h=>h) (Or.inl ⟨by rfl,fun w hS=>by clear hS;go_simp;try with_reducible rfl⟩) hHeld ?_
  try simp only[qP,qN,qS,qZ,qC]
  refine wpAnyH_done (by kernel_rfl) ?_ _;refine NoPanic.normal ?_
 all_goals
  go_wp2_with fail
  refine bodyPost_ret (v:=.tuple #[.agg #[.slice cK ae.1.ops.length bQ,.slice cB ae.1.bp.length bP,.slice cO ae.1.bm.length bR,.slice aL ae.1.ap.length aH,.slice aM ae.1.am.length aI],.int .i64 ae.2]) (Y1 Tryz.results24 _ _ _ (w.heap.size+1+1) 35 _ (0,0) _ rfl aP.out.2.1 rfl Tryz.underlying35 (by kernel_rfl) _ rfl) rfl ?_;exact ZC.put (arr:=#[]) aZ.out bz.out aP.out.1 aP.out.2.2 aJ.out (by omega)
