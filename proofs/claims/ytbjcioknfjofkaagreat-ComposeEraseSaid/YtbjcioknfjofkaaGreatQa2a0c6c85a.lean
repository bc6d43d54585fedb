/- Texts put together. -/
import Derived.Test.YtbjcioknfjofkaaGreatQ9c77a892b3
import Derived.Test.YtbjcioknfjofkaaGreatQcc5716f5ff
set_option linter.unusedVariables false
set_option linter.unusedSimpArgs false
set_option maxRecDepth 100000
namespace Go.Proofs.YtbjcioknfjofkaaGreat
open Go.RowKit
theorem zIf (t:Tree) (p m:List Int) (back:Bool):((ofS t p m).2≠0→zD3 t p m back = (recZ,(ofS t p m).2)) ∧
  (∀ rr ra rb,ofS t p m = ((rr,ra,rb),0)→ra < rb→zD3 t p m back = zD9 t p m [zBs rr ra (zCd t rr ra rb).1] (rr ++ [ra]) []) ∧
  (∀ rr ra rb,ofS t p m = ((rr,ra,rb),0)→¬ ra < rb→zD3 t p m back = zD2 t p m back):=by
 refine ⟨fun h=>?_,fun rr ra rb h hlt=>?_,fun rr ra rb h hlt=>zJs (by rw [h]) (by rw [h];exact hlt)⟩
 ·unfold zD3;rw [if_pos h]
 ·have h2:=(zN4 (t:=t) (p:=p) (m:=m) (by rw [h])).2
  rw [h] at h2
  simp only at h2
  unfold zD3 cutS
  rw [h]
  simp only
  rw [if_neg (by simp),if_pos hlt,if_neg (by omega)]
  rfl
set_option maxHeartbeats 16000000 in
theorem zJx (t:Tree) (p m:List Int) (A Ap Am:Option Addr) (cap cp cm:Nat) (back:Bool) (w:World) (hv:zAa zAb w (Lt w.heap.size) t.kids (.slice A t.kids.length cap)) (hok:zAu t) (hct:zAe t≤900000) (hp:zAh w (Lt w.heap.size) p (.slice Ap p.length cp)) (hm:zAh w (Lt w.heap.size) m (.slice Am m.length cm)) (hpl:p.length≤90000) (hml:m.length≤90000) :
  Calls Tryz.prog 15 #[.agg #[.int .i64 t.kind,.string t.text,.int .i64 t.cols,.slice A t.kids.length cap],.agg #[.slice Ap p.length cp,.slice Am m.length cm],.bool back] w (RecF w (zD3 t p m back)):=by
 obtain ⟨W0,hW0⟩:∃ W0,((w.alloc (.cells #[.int .i64 t.kind,.string t.text,.int .i64 t.cols,.slice A t.kids.length cap] 24)).alloc (.cells #[.slice Ap p.length cp,.slice Am m.length cm] 33)).alloc (.cells #[.slice none 0 0,.slice none 0 0,.slice none 0 0,.slice none 0 0,.slice none 0 0] 36) = W0:=⟨_,rfl⟩
 have hb0:Below w.heap.size w W0:=by rw [← hW0];exact zAp (zAp (blA _ _) _) _
 have ho1:zAc W0 w.heap.size (.cells #[.int .i64 t.kind,.string t.text,.int .i64 t.cols,.slice A t.kids.length cap] 24):=by rw [← hW0];exact ((zAc.at0 _ _).al _).al _
 have ho2:zAc W0 (w.heap.size + 1) (.cells #[.slice Ap p.length cp,.slice Am m.length cm] 33):=by rw [← hW0];exact (zAc.at1 _ _ _).al _
 have HO3:Hid (zAc W0 (w.heap.size + 1 + 1) (.cells #[.slice none 0 0,.slice none 0 0,.slice none 0 0,.slice none 0 0,.slice none 0 0] 36)):=by show zAc _ _ _;rw [← hW0];exact zAc.at2 _ _ _ _
 have CL:=look_st t p m A Ap Am cap cp cm W0 (hv.below hb0 hb0.size) hok hct (hp.below hb0 hb0.size) (hm.below hb0 hb0.size) hpl hml
 have HE:=hid (zIf t p m back)
 have HOK:=hid hok
 have HB0:=hid hb0
 have m0:=ho1.cell 0
 have m1:=ho1.cell 1
 have m2:=ho1.cell 2
 have m3:=ho1.cell 3
 have n0:=ho2.cell 0
 have n1:=ho2.cell 1
 simp only [List.getElem?_toArray,List.getElem?_cons_zero,List.getElem?_cons_succ] at m0 m1 m2 m3 n0 n1
 have CC:=hid CL
 obtain ⟨RES,hRES⟩:∃ RES,zD3 t p m back = RES:=⟨_,rfl⟩
 rw [hRES] at HE ⊢
 clear hv hok hct hp hm hpl hml hb0 ho1 ho2 CL hRES
 go_enter Tryz.func15,Tryz.ntmps15
 go_wp2_with fail
 refine CC.out.mono ?_
 rintro e w1 ⟨hb1,h1⟩
 have HB1:=hid (HB0.out.trans (hb1.mono HB0.out.size))
 have HO1:=hid (HO3.out.below hb1)
 clear hb1 m0 m1 m2 m3 n0 n1 hW0
 rcases h1 with ⟨he,rfl⟩ | ⟨he,rr,Ar,cr,ra,rb,q,A1,o,its,Ai,ci,ar,q2,A2,c2,i,s,it,A3,c3,rfl,hst⟩
 ·have HR:=hid (HE.out.1 he)
  have hse:((ofS t p m).2 != 0) = true:=by simp [he]
  clear CC HE
  generalize (ofS t p m).2 = se at *
  go_upto_region 2 with (first
   | (refine wpList_store_row rfl 73 (.tmp 8) (.tmp 15) rfl w1.heap.size _ rfl rfl 73 _ (zAc.at0 _ _) (by kernel_rfl) (by simp) (by simp [Value.oneCell']) ?_)
   | fail)
  generalize hX:World.setRow _ _ _ = X
  have HBX:Hid (Below w.heap.size w X):=by show Below _ _ _;rw [← hX];exact zAk (HB1.out.trans ((blA w1 _).mono HB1.out.size)) HB1.out.size _
  have HG:Hid (zAc X (w.heap.size + 1 + 1) (.cells #[.slice none 0 0,.slice none 0 0,.slice none 0 0,.slice none 0 0,.slice none 0 0] 36)):=by show zAc _ _ _;rw [← hX];exact (setRow_other _ _ _ _ (Nat.ne_of_lt HO1.out.lt)).trans (HO1.out.al _)
  clear hX
  go_wp2_with (first
   | (refine wpList_store_row rfl 36 (.tmp 6) (.tmp 19) rfl (w.heap.size + 1 + 1) _ rfl rfl 36 _ HG.out (by kernel_rfl) (by simp) (by simp [Value.oneCell']) ?_)
   | fail)
  refine bodyPost_ret (v:=.tuple #[.agg #[.slice none 0 0,.slice none 0 0,.slice none 0 0,.slice none 0 0,.slice none 0 0],.int .i64 se]) (zAj Tryz.results15 _ _ _ (w.heap.size + 1 + 1) 36 _ (0,0) _ rfl (HG.out.row _) rfl Tryz.underlying36 (by kernel_rfl) _ rfl) rfl ?_
  rw [HR.out]
  exact zK8 se (zAk HBX.out (by omega) _)
 ·have hof:=hst.of
  simp only at hof
  have HE2:=hid (HE.out.2.1 rr ra rb hof)
  have HE3:=hid (HE.out.2.2 rr ra rb hof)
  simp only [stC]
  clear CC HE he hof
  go_upto_region 2 with (first
   | (refine wpList_store_row rfl 73 (.tmp 8) (.tmp 15) rfl w1.heap.size _ rfl rfl 73 _ (zAc.at0 _ _) (by kernel_rfl) (by simp) (by simp [Value.oneCell']) ?_)
   | fail)
  generalize hX:World.setRow _ _ _ = X
  have hbx:Below w1.heap.size w1 X:=by rw [← hX];exact zAk (blA w1 _) (Nat.le_refl _) _
  have HSX:Hid (zAc X w1.heap.size (.cells #[.int .i64 t.kind,.string t.text,.int .i64 t.cols,.slice A t.kids.length cap,.slice Ap p.length cp,.slice Am m.length cm,.slice Ar rr.length cr,.int .i64 ra,.int .i64 rb,.slice A1 q.length cp,.int .i64 o,.slice Ai its.length ci,.bool ar,.slice A2 q2.length c2,.int .i64 i,.int .i64 s,.int .i64 it.kind,.string it.text,.int .i64 it.cols,.slice A3 it.kids.length c3] 73)):=by show zAc _ _ _;rw [← hX];exact (zAc.at0 w1 _).row _
  have HG:Hid (zAc X (w.heap.size + 1 + 1) (.cells #[.slice none 0 0,.slice none 0 0,.slice none 0 0,.slice none 0 0,.slice none 0 0] 36)):=hid (HO1.out.below hbx)
  have HBX:=hid (HB1.out.trans (hbx.mono HB1.out.size))
  have HST:=hid (hst.bl hbx)
  have HNE:Hid (w1.heap.size≠w.heap.size + 1 + 1):=fun e=>Nat.lt_irrefl _ (e ▸ HO1.out.lt)
  have HF:=hid (zJ3 hst)
  clear hX hbx hst
  obtain ⟨bl,hbl⟩:∃ bl,decide (ra < rb) = bl:=⟨_,rfl⟩
  have HBL:=hid hbl
  have HCS:=hid (fun (W:World) (x0 x1 x2 x3 x4 x5 x6 x9 x10 x11 x12 x13 x14 x15 x16 x17 x18 x19:Value)=>(by rw [← hbl];exact zK4 x0 x1 x2 x3 x4 x5 x6 x9 x10 x11 x12 x13 x14 x15 x16 x17 x18 x19 ra rb W:Calls Tryz.prog 38 #[.agg #[x0,x1,x2,x3,x4,x5,x6,.int .i64 ra,.int .i64 rb,x9,x10,x11,x12,x13,x14,x15,x16,x17,x18,x19]] W (EqC W bl)))
  clear hbl
  go_upto_if 22 with (first
   | (refine wpList_load_row rfl 73 (.tmp 8) rfl w1.heap.size rfl 73 _ (0,0) _ HSX.out Tryz.underlying73 rfl (by kernel_rfl) ?_)
   | (go_at_call 38;refine Calls.mono (HCS.out _ _ _ _ _ _ _ _ _ _ _ _ _ _ _ _ _ _ _) ?_;rintro e w2 ⟨rfl,hb2⟩;have HB2:=hid hb2;clear hb2)
   | fail)
  have HWB:=hid (HBX.out.trans (HB2.out.mono HBX.out.size))
  have HS:=hid (HSX.out.below HB2.out)
  have HG:=hid (HG.out.below HB2.out)
  have HSB:=hid (HST.out.bl HB2.out)
  clear HSX HST HO1 HCS
  cases bl
  case true =>
   have hlt:=of_decide_eq_true HBL.out
   have HRES:=hid (HE2.out hlt)
   have HSD:Hid (rr.length≤1000000∧zAd (zCd t rr ra rb).1≤1000000):=⟨by have:=HF.out;omega,Nat.le_trans (zH5 HF.out.1 rr ra rb) (by decide)⟩
   have HCU:Hid (∀ W,Below w2.heap.size w2 W→Calls Tryz.prog 41 #[.agg #[.int .i64 t.kind,.string t.text,.int .i64 t.cols,.slice A t.kids.length cap,.slice Ap p.length cp,.slice Am m.length cm,.slice Ar rr.length cr,.int .i64 ra,.int .i64 rb,.slice A1 q.length cp,.int .i64 o,.slice Ai its.length ci,.bool ar,.slice A2 q2.length c2,.int .i64 i,.int .i64 s,.int .i64 it.kind,.string it.text,.int .i64 it.cols,.slice A3 it.kids.length c3]] W (OpP (Lt w2.heap.size) W (zBs rr ra (zCd t rr ra rb).1))):=fun W hW=>by have h9:=HSB.out.bl hW;exact cut_any (Lt w2.heap.size) t rr ra rb A Ar cap cr _ _ _ _ _ _ _ _ _ _ _ _ _ W h9.tk HOK.out h9.tct (HSB.out.r.keep (fun r hr=>hW.cell hr) (fun k hk=>⟨Nat.lt_of_lt_of_le hk hW.size,hk⟩)) (zA2 (by have:=HF.out;omega)) (zA2 (by have:=HF.out;omega))
   generalize (zCd t rr ra rb).1 = l9 at *
   have HK64:Hid (∀ i ∈ [ra],In64 i):=fun i hi=>by rw [List.mem_singleton.1 hi];exact zA2 (by have:=HF.out;omega)
   have HL:Hid (rr.length + [ra].length≤100000):=by have:=HF.out;show _ + 1≤_;omega
   have HW:Hid (Below w2.heap.size w2 w2):=hid (Below.refl _ _)
   have HDN:=hid (fun W B (hW:Below w2.heap.size w2 W) hb=>(zPi HSB.out (w0:=w2) (B:=B) (ops:=[zBs rr ra l9]) (pos:=rr ++ [ra]) (am:=[]) hW hb (by simp)).mono (fun e w' (h:RecF w2 _ e w')=>(by rw [HRES.out];exact h:RecF w2 RES e w')))
   clear hlt
   go_upto_region 5 with fail
   refine wp_region_noPanic ?_
   refine wp_region_held_drew (S:=fun w'=>Kept (fun k=>k = w.heap.size + 1 + 1) w2 w') (by kernel_rfl) (kwt HW.out) (fun hHeld=>?_)
   refine wpAnyH_take (i:=0) (oi:=⟨some 23,_,_,_,_,_⟩) (v:=_) rfl (by kernel_rfl) (by kernel_rfl) (by kernel_rfl) (fun _ _ _ h=>h) (zB6 73 (.tmp 8) rfl (by rfl) _ rfl (fun w hS=>hS.obj HS.out HNE.out) Tryz.underlying73 (by kernel_rfl)) hHeld ?_
   try simp only [Act.put,List.setIfInBounds_toArray,List.set_cons_zero,List.set_cons_succ]
   refine wpAnyH_take (i:=2) (oi:=⟨some 25,_,_,_,_,_⟩) (v:=_) rfl (by kernel_rfl) (by kernel_rfl) (by kernel_rfl) (fun _ _ _ h=>h) (zB6 73 (.tmp 8) rfl (by rfl) _ rfl (fun w hS=>hS.obj HS.out HNE.out) Tryz.underlying73 (by kernel_rfl)) hHeld ?_
   try simp only [Act.put,List.setIfInBounds_toArray,List.set_cons_zero,List.set_cons_succ]
   refine wpAnyH_take (i:=5) (oi:=⟨some 28,_,_,_,_,_⟩) (v:=_) rfl (by kernel_rfl) (by kernel_rfl) (by kernel_rfl) (fun _ _ _ h=>h) (Or.inl ⟨by rfl,fun w hS=>by clear hS;go_simp;try with_reducible rfl⟩) hHeld ?_
   try simp only [Act.put,List.setIfInBounds_toArray,List.set_cons_zero,List.set_cons_succ]
   refine wpAnyH_take (i:=6) (oi:=⟨some 29,_,_,_,_,_⟩) (v:=_) rfl (by kernel_rfl) (by kernel_rfl) (by kernel_rfl) (fun _ _ _ h=>h) (Or.inl ⟨by rfl,fun w hS=>by clear hS;go_simp;try with_reducible rfl⟩) hHeld ?_
   try simp only [Act.put,List.setIfInBounds_toArray,List.set_cons_zero,List.set_cons_succ]
   refine wpAnyH_take (i:=7) (oi:=⟨some 30,_,_,_,_,_⟩) (v:=_) rfl (by kernel_rfl) (by kernel_rfl) (by kernel_rfl) (fun _ _ _ h=>h) (Or.inl ⟨by rfl,fun W hS=>by have h:W.cell? ⟨w1.heap.size,6,none⟩ = some (.slice Ar rr.length cr):=(hS.obj HS.out HNE.out).cell 6;clear hS;go_simp;try with_reducible rfl⟩) hHeld ?_
   try simp only [Act.put,List.setIfInBounds_toArray,List.set_cons_zero,List.set_cons_succ]
   refine wpAnyH_take (i:=8) (oi:=⟨some 31,_,_,_,_,_⟩) (v:=_) rfl (by kernel_rfl) (by kernel_rfl) (by kernel_rfl) (fun _ _ _ h=>h) (Or.inl ⟨by rfl,fun w hS=>by clear hS;go_simp;try with_reducible rfl⟩) hHeld ?_
   try simp only [Act.put,List.setIfInBounds_toArray,List.set_cons_zero,List.set_cons_succ]
   refine wpAnyH_take (i:=9) (oi:=⟨some 32,_,_,_,_,_⟩) (v:=_) rfl (by kernel_rfl) (by kernel_rfl) (by kernel_rfl) (fun _ _ _ h=>h) (Or.inl ⟨by rfl,fun w hS=>by clear hS;go_simp;try with_reducible rfl⟩) hHeld ?_
   try simp only [Act.put,List.setIfInBounds_toArray,List.set_cons_zero,List.set_cons_succ]
   refine wpAnyH_take (i:=10) (oi:=⟨some 33,_,_,_,_,_⟩) (v:=_) rfl (by kernel_rfl) (by kernel_rfl) (by kernel_rfl) (fun _ _ _ h=>h) (Or.inl ⟨by rfl,fun W hS=>by have h:W.cell? ⟨w1.heap.size,7,none⟩ = some (.int .i64 ra):=(hS.obj HS.out HNE.out).cell 7;clear hS;go_simp;try with_reducible rfl⟩) hHeld ?_
   try simp only [Act.put,List.setIfInBounds_toArray,List.set_cons_zero,List.set_cons_succ]
   refine wpAnyH_ready (rs:=[1,11]) (by kernel_rfl) (by simp) ?_
   refine (AllReadyH.cons (o:=⟨some 24,_,_,_,_,_⟩) rfl (fun K hK=>?_) (AllReadyH.cons (o:=⟨some 34,_,_,_,_,_⟩) rfl (fun K hK=>?_) AllReadyH.nil))
   go_simp
   refine Calls.mono (zEx _ _ _ _ _ _ _ _ _ _ _ _ _ _ _ _ _ _ _ _ w2 _ (bwt HW.out)) ?_
   rintro e wk ⟨B,F,rfl,hbs,hst⟩
   try have HO:=hid (And.intro (hst.keep (zBo bw HO.out.1)) (hst.keep (zBo bw HO.out.2)))
   try have HR:=hid (Stp.keep hst (zBo bw HR.out))
   have HB:=hid hbs
   have HBO:=HB
   have HW:=hid hbs.below
   clear hst hbs
   refine hK.out _ _ (kwt HW.out) (fun hHeld=>?_)
   clear hK K
   try simp only [Act.put,List.setIfInBounds_toArray,List.set_cons_zero,List.set_cons_succ]
   refine wpAnyH_ready (rs:=[3,11]) (by kernel_rfl) (by simp) ?_
   refine (AllReadyH.cons (o:=⟨some 26,_,_,_,_,_⟩) rfl (fun K hK=>?_) (AllReadyH.cons (o:=⟨some 34,_,_,_,_,_⟩) rfl (fun K hK=>?_) AllReadyH.nil))
   go_simp
   refine Calls.mono (HCU.out _ (bwt HW.out)) ?_
   rintro e wk ⟨Ar9,cr9,An9,cn9,rfl,hr9,hn9,hb9⟩
   have HO:=hid (And.intro (zEz HB.out.lo (BS.bl HB.out bw).hi hr9) (zEz HB.out.lo (BS.bl HB.out bw).hi hn9))
   try have HR:=hid (Stp.keep (Stp.of_bl hb9) (zBo bw HR.out))
   have HB:=hid (BS.bl (BS.bl HB.out bw) hb9)
   have HBO:=HB
   have HW:=hid ((bwt HW.out).trans (hb9.mono (bwt HW.out).size))
   clear hr9 hn9 hb9
   refine hK.out _ _ (kwt HW.out) (fun hHeld=>?_)
   clear hK K
   try simp only [Act.put,List.setIfInBounds_toArray,List.set_cons_zero,List.set_cons_succ]
   refine wpAnyH_ready (rs:=[4,11]) (by kernel_rfl) (by simp) ?_
   refine (AllReadyH.cons (o:=⟨some 27,_,_,_,_,_⟩) rfl (fun K hK=>?_) (AllReadyH.cons (o:=⟨some 34,_,_,_,_,_⟩) rfl (fun K hK=>?_) AllReadyH.nil))
   go_simp
   refine Calls.mono (zIp (HB.out.bl bw) (zBs rr ra l9) _ _ _ _ (by simp) (zC5 (zBo bw HO.out.1)) (zC5 (zBo bw HO.out.2)) HSD.out.1 HSD.out.2 (by simp [zBs,In64]) (HK64.out _ (List.mem_singleton.2 rfl)) (by simp [zBs,In64]) (by simp [zBs,In64]) (Nat.zero_le _) (Nat.zero_le _)) ?_
   rintro e wk ⟨F,rfl,hbs,hst⟩
   try have HR:=hid (Stp.keep hst (zBo bw HR.out))
   have HB:=hid hbs
   have HBO:=HB
   have HW:=hid hbs.below
   clear hst hbs
   refine hK.out _ _ (kwt HW.out) (fun hHeld=>?_)
   clear hK K
   try simp only [Act.put,List.setIfInBounds_toArray,List.set_cons_zero,List.set_cons_succ]
   refine wpAnyH_ready (rs:=[11]) (by kernel_rfl) (by simp) ?_
   refine (AllReadyH.cons (o:=⟨some 34,_,_,_,_,_⟩) rfl (fun K hK=>?_) AllReadyH.nil)
   go_simp
   refine hK.out _ _ (kwt HW.out) (fun hHeld=>?_)
   clear hK K
   try simp only [Act.put,List.setIfInBounds_toArray,List.set_cons_zero,List.set_cons_succ]
   refine wpAnyH_ready (rs:=[12]) (by kernel_rfl) (by simp) ?_
   refine (AllReadyH.cons (o:=⟨some 35,_,_,_,_,_⟩) rfl (fun K hK=>?_) AllReadyH.nil)
   go_simp
   refine Calls.mono (zHc (HB.out.bl bw) rr [ra] _ _ _ _ (HSB.out.r.below (bwt HW.out) (bwt HW.out).size) (zNu _ [ra] _ (HK64.out) (by simp [maxLen])) (HL.out)) ?_
   rintro e wk ⟨rfl,hba⟩
   have HB:=hid hba
   have HW:=hid hba.below
   clear hba
   refine hK.out _ _ (kwt HW.out) (fun hHeld=>?_)
   clear hK K
   try simp only [Act.put,List.setIfInBounds_toArray,List.set_cons_zero,List.set_cons_succ]
   rotate_left
   go_simp
   refine hK.out _ _ (kwt HW.out) (fun hHeld=>?_)
   clear hK K
   try simp only [Act.put,List.setIfInBounds_toArray,List.set_cons_zero,List.set_cons_succ]
   refine wpAnyH_ready (rs:=[4]) (by kernel_rfl) (by simp) ?_
   refine (AllReadyH.cons (o:=⟨some 27,_,_,_,_,_⟩) rfl (fun K hK=>?_) AllReadyH.nil)
   go_simp
   refine Calls.mono (zIp (HB.out.bl bw) (zBs rr ra l9) _ _ _ _ (by simp) (zC5 (zBo bw HO.out.1)) (zC5 (zBo bw HO.out.2)) HSD.out.1 HSD.out.2 (by simp [zBs,In64]) (HK64.out _ (List.mem_singleton.2 rfl)) (by simp [zBs,In64]) (by simp [zBs,In64]) (Nat.zero_le _) (Nat.zero_le _)) ?_
   rintro e wk ⟨F,rfl,hbs,hst⟩
   have HR:=hid (zGm [ra] (HK64.out) (by simp [maxLen]) ((BS.bl HBO.out bw).hi) hst)
   have HB:=hid hbs
   have HBO:=HB
   have HW:=hid hbs.below
   clear hst hbs
   refine hK.out _ _ (kwt HW.out) (fun hHeld=>?_)
   clear hK K
   try simp only [Act.put,List.setIfInBounds_toArray,List.set_cons_zero,List.set_cons_succ]
   refine wpAnyH_ready (rs:=[12]) (by kernel_rfl) (by simp) ?_
   refine (AllReadyH.cons (o:=⟨some 35,_,_,_,_,_⟩) rfl (fun K hK=>?_) AllReadyH.nil)
   go_simp
   refine Calls.mono (zHc (HB.out.bl bw) rr [ra] _ _ _ _ (HSB.out.r.below (bwt HW.out) (bwt HW.out).size) (zC5 (zBo bw HR.out)) (HL.out)) ?_
   rintro e wk ⟨rfl,hba⟩
   have HB:=hid hba
   have HW:=hid hba.below
   clear hba
   refine hK.out _ _ (kwt HW.out) (fun hHeld=>?_)
   clear hK K
   try simp only [Act.put,List.setIfInBounds_toArray,List.set_cons_zero,List.set_cons_succ]
   rotate_left
   go_simp
   refine hK.out _ _ (kwt HW.out) (fun hHeld=>?_)
   clear hK K
   try simp only [Act.put,List.setIfInBounds_toArray,List.set_cons_zero,List.set_cons_succ]
   refine wpAnyH_ready (rs:=[3]) (by kernel_rfl) (by simp) ?_
   refine (AllReadyH.cons (o:=⟨some 26,_,_,_,_,_⟩) rfl (fun K hK=>?_) AllReadyH.nil)
   go_simp
   refine Calls.mono (HCU.out _ (bwt HW.out)) ?_
   rintro e wk ⟨Ar9,cr9,An9,cn9,rfl,hr9,hn9,hb9⟩
   have HO:=hid (And.intro (zEz HB.out.lo (BS.bl HB.out bw).hi hr9) (zEz HB.out.lo (BS.bl HB.out bw).hi hn9))
   have HR:=hid (zGm [ra] (HK64.out) (by simp [maxLen]) ((BS.bl HBO.out bw).hi) (Stp.of_bl hb9))
   have HB:=hid (BS.bl (BS.bl HB.out bw) hb9)
   have HBO:=HB
   have HW:=hid ((bwt HW.out).trans (hb9.mono (bwt HW.out).size))
   clear hr9 hn9 hb9
   refine hK.out _ _ (kwt HW.out) (fun hHeld=>?_)
   clear hK K
   try simp only [Act.put,List.setIfInBounds_toArray,List.set_cons_zero,List.set_cons_succ]
   refine wpAnyH_ready (rs:=[4]) (by kernel_rfl) (by simp) ?_
   refine (AllReadyH.cons (o:=⟨some 27,_,_,_,_,_⟩) rfl (fun K hK=>?_) AllReadyH.nil)
   go_simp
   refine Calls.mono (zIp (HB.out.bl bw) (zBs rr ra l9) _ _ _ _ (by simp) (zC5 (zBo bw HO.out.1)) (zC5 (zBo bw HO.out.2)) HSD.out.1 HSD.out.2 (by simp [zBs,In64]) (HK64.out _ (List.mem_singleton.2 rfl)) (by simp [zBs,In64]) (by simp [zBs,In64]) (Nat.zero_le _) (Nat.zero_le _)) ?_
   rintro e wk ⟨F,rfl,hbs,hst⟩
   try have HR:=hid (Stp.keep hst (zBo bw HR.out))
   have HB:=hid hbs
   have HBO:=HB
   have HW:=hid hbs.below
   clear hst hbs
   refine hK.out _ _ (kwt HW.out) (fun hHeld=>?_)
   clear hK K
   try simp only [Act.put,List.setIfInBounds_toArray,List.set_cons_zero,List.set_cons_succ]
   refine wpAnyH_ready (rs:=[12]) (by kernel_rfl) (by simp) ?_
   refine (AllReadyH.cons (o:=⟨some 35,_,_,_,_,_⟩) rfl (fun K hK=>?_) AllReadyH.nil)
   go_simp
   refine Calls.mono (zHc (HB.out.bl bw) rr [ra] _ _ _ _ (HSB.out.r.below (bwt HW.out) (bwt HW.out).size) (zC5 (zBo bw HR.out)) (HL.out)) ?_
   rintro e wk ⟨rfl,hba⟩
   have HB:=hid hba
   have HW:=hid hba.below
   clear hba
   refine hK.out _ _ (kwt HW.out) (fun hHeld=>?_)
   clear hK K
   try simp only [Act.put,List.setIfInBounds_toArray,List.set_cons_zero,List.set_cons_succ]
   rotate_left
   go_simp
   refine hK.out _ _ (kwt HW.out) (fun hHeld=>?_)
   clear hK K
   try simp only [Act.put,List.setIfInBounds_toArray,List.set_cons_zero,List.set_cons_succ]
   refine wpAnyH_ready (rs:=[1]) (by kernel_rfl) (by simp) ?_
   refine (AllReadyH.cons (o:=⟨some 24,_,_,_,_,_⟩) rfl (fun K hK=>?_) AllReadyH.nil)
   go_simp
   refine Calls.mono (zEx _ _ _ _ _ _ _ _ _ _ _ _ _ _ _ _ _ _ _ _ w2 _ (bwt HW.out)) ?_
   rintro e wk ⟨B,F,rfl,hbs,hst⟩
   try have HO:=hid (And.intro (hst.keep (zBo bw HO.out.1)) (hst.keep (zBo bw HO.out.2)))
   have HR:=hid (zJ6 [ra] (HK64.out) (by simp [maxLen]) (fun _ h=>False.elim h) hst)
   have HB:=hid hbs
   have HBO:=HB
   have HW:=hid hbs.below
   clear hst hbs
   refine hK.out _ _ (kwt HW.out) (fun hHeld=>?_)
   clear hK K
   try simp only [Act.put,List.setIfInBounds_toArray,List.set_cons_zero,List.set_cons_succ]
   refine wpAnyH_ready (rs:=[3]) (by kernel_rfl) (by simp) ?_
   refine (AllReadyH.cons (o:=⟨some 26,_,_,_,_,_⟩) rfl (fun K hK=>?_) AllReadyH.nil)
   go_simp
   refine Calls.mono (HCU.out _ (bwt HW.out)) ?_
   rintro e wk ⟨Ar9,cr9,An9,cn9,rfl,hr9,hn9,hb9⟩
   have HO:=hid (And.intro (zEz HB.out.lo (BS.bl HB.out bw).hi hr9) (zEz HB.out.lo (BS.bl HB.out bw).hi hn9))
   try have HR:=hid (Stp.keep (Stp.of_bl hb9) (zBo bw HR.out))
   have HB:=hid (BS.bl (BS.bl HB.out bw) hb9)
   have HBO:=HB
   have HW:=hid ((bwt HW.out).trans (hb9.mono (bwt HW.out).size))
   clear hr9 hn9 hb9
   refine hK.out _ _ (kwt HW.out) (fun hHeld=>?_)
   clear hK K
   try simp only [Act.put,List.setIfInBounds_toArray,List.set_cons_zero,List.set_cons_succ]
   refine wpAnyH_ready (rs:=[4]) (by kernel_rfl) (by simp) ?_
   refine (AllReadyH.cons (o:=⟨some 27,_,_,_,_,_⟩) rfl (fun K hK=>?_) AllReadyH.nil)
   go_simp
   refine Calls.mono (zIp (HB.out.bl bw) (zBs rr ra l9) _ _ _ _ (by simp) (zC5 (zBo bw HO.out.1)) (zC5 (zBo bw HO.out.2)) HSD.out.1 HSD.out.2 (by simp [zBs,In64]) (HK64.out _ (List.mem_singleton.2 rfl)) (by simp [zBs,In64]) (by simp [zBs,In64]) (Nat.zero_le _) (Nat.zero_le _)) ?_
   rintro e wk ⟨F,rfl,hbs,hst⟩
   try have HR:=hid (Stp.keep hst (zBo bw HR.out))
   have HB:=hid hbs
   have HBO:=HB
   have HW:=hid hbs.below
   clear hst hbs
   refine hK.out _ _ (kwt HW.out) (fun hHeld=>?_)
   clear hK K
   try simp only [Act.put,List.setIfInBounds_toArray,List.set_cons_zero,List.set_cons_succ]
   refine wpAnyH_ready (rs:=[12]) (by kernel_rfl) (by simp) ?_
   refine (AllReadyH.cons (o:=⟨some 35,_,_,_,_,_⟩) rfl (fun K hK=>?_) AllReadyH.nil)
   go_simp
   refine Calls.mono (zHc (HB.out.bl bw) rr [ra] _ _ _ _ (HSB.out.r.below (bwt HW.out) (bwt HW.out).size) (zC5 (zBo bw HR.out)) (HL.out)) ?_
   rintro e wk ⟨rfl,hba⟩
   have HB:=hid hba
   have HW:=hid hba.below
   clear hba
   refine hK.out _ _ (kwt HW.out) (fun hHeld=>?_)
   clear hK K
   try simp only [Act.put,List.setIfInBounds_toArray,List.set_cons_zero,List.set_cons_succ]
   rotate_left
   all_goals
    refine wpAnyH_ready (rs:=[13]) (by kernel_rfl) (by simp) ?_
    refine (AllReadyH.cons (o:=⟨some 36,_,_,_,_,_⟩) rfl (fun K hK=>?_) AllReadyH.nil)
    go_simp
    refine Calls.mono (HDN.out _ _ (bwt HW.out) (HB.out.bl bw)) ?_
    rintro e wk hrec
    have HREC:=hid hrec
    obtain ⟨Ao9,co9,Ap9,cp9,Am9,cm9,Aap9,cap9,Aam9,cam9,rfl,_,_,_,_,_,hbw⟩:=hrec
    have HW:=hid hbw
    have HGW:=hid (HG.out.below hbw)
    clear hbw
    refine hK.out _ _ (kwt HW.out) (fun hHeld=>?_)
    clear hK K
    try simp only [Act.put,List.setIfInBounds_toArray,List.set_cons_zero,List.set_cons_succ]
    refine wpAnyH_take (i:=14) (oi:=⟨some 37,_,_,_,_,_⟩) (v:=_) rfl (by kernel_rfl) (by kernel_rfl) (by kernel_rfl) (fun _ _ _ h=>h) (Or.inl ⟨by rfl,fun w hS=>by clear hS;go_simp;try with_reducible rfl⟩) hHeld ?_
    try simp only [Act.put,List.setIfInBounds_toArray,List.set_cons_zero,List.set_cons_succ]
    refine wpAnyH_take (i:=15) (oi:=⟨some 38,_,_,_,_,_⟩) (v:=_) rfl (by kernel_rfl) (by kernel_rfl) (by kernel_rfl) (fun _ _ _ h=>h) (Or.inl ⟨by rfl,fun w hS=>by clear hS;go_simp;try with_reducible rfl⟩) hHeld ?_
    try simp only [Act.put,List.setIfInBounds_toArray,List.set_cons_zero,List.set_cons_succ]
    refine wpAnyH_ready (rs:=[16]) (by kernel_rfl) (by simp) ?_
    refine (AllReadyH.cons (o:=⟨none,_,_,_,_,_⟩) rfl (fun K hK=>?_) AllReadyH.nil)
    rw [if_pos (by rfl)]
    refine wp_store_row 36 (.tmp 6) (.tmp 37) rfl (w.heap.size + 1 + 1) #[.slice Ao9 RES.1.ops.length co9,.slice Ap9 RES.1.bp.length cp9,.slice Am9 RES.1.bm.length cm9,.slice Aap9 RES.1.ap.length cap9,.slice Aam9 RES.1.am.length cam9] rfl rfl 36 _ HGW.out (by kernel_rfl) (by simp) (by simp [Value.oneCell']) ?_
    refine zCq HGW.out (fun X9 HX9=>?_)
    refine hK.out _ _ ((kwt HW.out).trans' HX9.out.1) (fun hHeld=>?_)
    clear hK K
    try simp only [Act.put,List.setIfInBounds_toArray,List.set_cons_zero,List.set_cons_succ]
    refine wpAnyH_take (i:=17) (oi:=⟨some 7,_,_,_,_,_⟩) (v:=_) rfl (by kernel_rfl) (by kernel_rfl) (by kernel_rfl) (fun _ _ _ h=>h) (Or.inl ⟨by rfl,fun w hS=>by clear hS;go_simp;try with_reducible rfl⟩) hHeld ?_
    try simp only [Act.put,List.setIfInBounds_toArray,List.set_cons_zero,List.set_cons_succ]
    refine wpAnyH_done (by kernel_rfl) ?_ _
    refine NoPanic.normal ?_
   all_goals
    go_wp2_with fail
    refine bodyPost_ret (v:=.tuple #[.agg #[.slice Ao9 RES.1.ops.length co9,.slice Ap9 RES.1.bp.length cp9,.slice Am9 RES.1.bm.length cm9,.slice Aap9 RES.1.ap.length cap9,.slice Aam9 RES.1.am.length cam9],.int .i64 RES.2]) (zAj Tryz.results15 _ _ _ (w.heap.size + 1 + 1) 36 _ (0,0) _ rfl HX9.out.2.1 rfl Tryz.underlying36 (by kernel_rfl) _ rfl) rfl ?_
    exact RecF.put (arr:=#[]) HREC.out HGW.out HX9.out.1 HX9.out.2.2 HWB.out (by omega)
  case false =>
  have HR:=hid (HE3.out (by have:=of_decide_eq_false HBL.out;omega))
  have CE:Hid (∀ W,Below w2.heap.size w2 W→Calls Tryz.prog 44 #[.agg #[.int .i64 t.kind,.string t.text,.int .i64 t.cols,.slice A t.kids.length cap,.slice Ap p.length cp,.slice Am m.length cm,.slice Ar rr.length cr,.int .i64 ra,.int .i64 rb,.slice A1 q.length cp,.int .i64 o,.slice Ai its.length ci,.bool ar,.slice A2 q2.length c2,.int .i64 i,.int .i64 s,.int .i64 it.kind,.string it.text,.int .i64 it.cols,.slice A3 it.kids.length c3],.int .i64 (if back then -1 else 1)] W (RecF W RES)):=fun W hW=>by rw [HR.out];exact zO7 ⟨t,A,cap,p,Ap,cp,m,Am,cm,rr,Ar,cr,ra,rb,q,A1,cp,o,its,Ai,ci,ar,q2,A2,c2,i,s,it,A3,c3⟩ back W (HSB.out.bl hW)
  clear HE2 HE3 HBL
  cases back
  all_goals
   simp only [Bool.false_eq_true,if_false,if_true,ite_true,ite_false] at CE
   go_wp2_with (first
    | (refine wpList_load_row rfl 73 (.tmp 8) rfl w1.heap.size rfl 73 _ (0,0) _ HS.out Tryz.underlying73 rfl (by kernel_rfl) ?_)
    | (go_at_call 44;refine Calls.mono (CE.out _ (Below.refl _ _)) ?_;rintro e wk hrec;have HREC:=hid hrec;obtain ⟨Ao9,co9,Ap9,cp9,Am9,cm9,Aap9,cap9,Aam9,cam9,rfl,_,_,_,_,_,hbw⟩:=hrec;have HW:=hid hbw;have HGW:=hid (HG.out.below hbw);clear hbw)
    | (refine wpList_store_row rfl 36 (.tmp 6) (.tmp 43) rfl (w.heap.size + 1 + 1) _ rfl rfl 36 _ HGW.out (by kernel_rfl) (by simp) (by simp [Value.oneCell']) ?_)
    | fail)
   refine bodyPost_ret (v:=.tuple #[.agg #[.slice Ao9 RES.1.ops.length co9,.slice Ap9 RES.1.bp.length cp9,.slice Am9 RES.1.bm.length cm9,.slice Aap9 RES.1.ap.length cap9,.slice Aam9 RES.1.am.length cam9],.int .i64 RES.2]) (zAj Tryz.results15 _ _ _ (w.heap.size + 1 + 1) 36 _ (0,0) _ rfl (HGW.out.row _) rfl Tryz.underlying36 (by kernel_rfl) _ rfl) rfl ?_
   exact RecF.put (arr:=#[]) HREC.out HGW.out (Kept.setRow _ _ _) (size_setRow _ _ _) HWB.out (by omega)
theorem zQx {w:World} {S:Nat→Prop} {t:Tree} {p m:List Int} {v:Value} (hv:zAa zAb w S t.kids v) (h:(ofS t p m).2 = 0) (hpl:p.length≤90000) {d:AroD} (hd:aroS t p = some d) :
  zAu d.item∧zAe d.item≤1000∧d.row.length≤90000∧0≤d.at_∧d.at_≤1000∧∃ s':Nat,d.own = s'∧s' < d.item.kids.length:=by
 have h3:3≤p.length:=by
  unfold aroS at hd
  split at hd
  ·cases hd
  ·omega
 obtain ⟨q2,i,s,o,hpe⟩:∃ q2 i s o,p = q2 ++ [i,s] ++ [o]:=by
  have h4:(p.drop (p.length - 3)).length = 3:=by simp;omega
  obtain ⟨a,b,c,e⟩:∃ a b c,p.drop (p.length - 3) = [a,b,c]:=by
   match hL:p.drop (p.length - 3),h4 with
   | [a,b,c],_=>exact ⟨a,b,c,rfl⟩
  exact ⟨p.take (p.length - 3),a,b,c,by rw [List.append_assoc];show p = _ ++ [a,b,c];rw [← e,List.take_append_drop]⟩
 obtain ⟨g1,g2,g3,s',g4,g5,_⟩:=zMe hv h hpe
 rw [g1] at hd
 cases hd
 obtain ⟨hvt,hpos,_⟩:=zMv h
 rw [hpe] at hpos
 obtain ⟨h4,hi,_⟩:=zFb hpos
 have hc:=zCe t q2
 have hkc:=zAn (zAm t q2).1
 have hvc:=(zA0 hvt).1
 exact ⟨g2,g3,by rw [hpe] at hpl;simp at hpl;show q2.length≤_;omega,hi.1,by have:=hi.2;show i≤_;omega,s',g4,g5⟩
theorem unw_few {x:AroD} {s':Nat} (h1:zAe x.item≤1000) (h2:x.own = s'):FewO [unwS x]:=⟨by simp,fun op h=>by
 rw [List.mem_singleton.1 h]
 have h9:=zEm x.item s' (rowT []) 1 (fun _=>by show 1 + 0≤_;omega)
 show zAe (zCj x.item x.own.toNat (rowT [])) + 0≤_
 rw [h2,Int.toNat_natCast]
 omega⟩
end Go.Proofs.YtbjcioknfjofkaaGreat
