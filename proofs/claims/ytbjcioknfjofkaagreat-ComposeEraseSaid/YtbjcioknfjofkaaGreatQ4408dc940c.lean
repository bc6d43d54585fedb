/- Texts put together. -/
import Derived.Test.YtbjcioknfjofkaaGreatQa2a0c6c85a
import Derived.Test.YtbjcioknfjofkaaGreatQb4f87ba2e9
import Derived.Test.YtbjcioknfjofkaaGreatQcc5716f5ff
import Derived.Test.YtbjcioknfjofkaaGreatQcae80fa152
set_option linter.unusedVariables false
set_option linter.unusedSimpArgs false
set_option maxRecDepth 100000
namespace Go.Proofs.YtbjcioknfjofkaaGreat
open Go.RowKit
theorem zH4 {P G:Prop} (h:P→G) (k:P):G:=h k
theorem zCx {wk:World} {o:Obj} {X:World} (h:Hid (AlcX wk o X)):∃ g,wk.heap.size = g:=⟨_,rfl⟩
theorem erT_at {t:Tree} {p q:List Int} {o:Int} (hpe:p = q ++ [o]) (b:Bool) (m:List Int):zD2 t p m b =
  if 0≤(if b then o - 1 else o)∧(if b then o - 1 else o) < ((zAg t q).1.kids.length:Int) then
   (if zCf (zD8 (zAg t q).1.kids (if b then o - 1 else o).toNat).kids 0 (-1) = false then zD9 t p m [zBs q (if b then o - 1 else o) [zD8 (zAg t q).1.kids (if b then o - 1 else o).toNat]] (q ++ [if b then o - 1 else o]) [] else zEj t p m b)
  else match aroS t p with
   | some x=>if zCf x.item.kids 0 x.own = false then zD9 t p m [unwS x] (x.row ++ [if b then x.at_ else x.at_ + (unwS x).n]) [] else zEj t p m b
   | none=>zEj t p m b:=by
 unfold zD2
 have e1:p.dropLast = q:=by rw [hpe];simp
 have e2:p.getLastD 0 = o:=by rw [hpe];simp
 rw [e1,e2]
 rfl
set_option maxHeartbeats 16000000 in
theorem zLc (t:Tree) (p m:List Int) (A Ap Am:Option Addr) (cap cp cm:Nat) (back:Bool) (w:World) (hv:zAa zAb w (Lt w.heap.size) t.kids (.slice A t.kids.length cap)) (hok:zAu t) (hct:zAe t≤900000) (hp:zAh w (Lt w.heap.size) p (.slice Ap p.length cp)) (hm:zAh w (Lt w.heap.size) m (.slice Am m.length cm)) (hpl:p.length≤90000) (hml:m.length≤90000) :
  Calls Tryz.prog 93 #[.agg #[.int .i64 t.kind,.string t.text,.int .i64 t.cols,.slice A t.kids.length cap],.agg #[.slice Ap p.length cp,.slice Am m.length cm],.bool back] w (RecB w (zD3 t p m back)):=by
 obtain ⟨W0,hW0⟩:∃ W0,((w.alloc (.cells #[.int .i64 t.kind,.string t.text,.int .i64 t.cols,.slice A t.kids.length cap] 24)).alloc (.cells #[.slice Ap p.length cp,.slice Am m.length cm] 33)).alloc (.cells #[.slice none 0 0,.slice none 0 0,.slice none 0 0,.slice none 0 0,.slice none 0 0] 36) = W0:=⟨_,rfl⟩
 have hb0:Below w.heap.size w W0:=by rw [← hW0];exact zAp (zAp (blA _ _) _) _
 have ho1:zAc W0 w.heap.size (.cells #[.int .i64 t.kind,.string t.text,.int .i64 t.cols,.slice A t.kids.length cap] 24):=by rw [← hW0];exact ((zAc.at0 _ _).al _).al _
 have ho2:zAc W0 (w.heap.size + 1) (.cells #[.slice Ap p.length cp,.slice Am m.length cm] 33):=by rw [← hW0];exact (zAc.at1 _ _ _).al _
 have HO1:=hid ho1
 have HO2:=hid ho2
 have HO3:Hid (zAc W0 (w.heap.size + 1 + 1) (.cells #[.slice none 0 0,.slice none 0 0,.slice none 0 0,.slice none 0 0,.slice none 0 0] 36)):=by show zAc _ _ _;rw [← hW0];exact zAc.at2 _ _ _ _
 have HB0:=hid hb0
 have CELL:Hid (∀ W,zAc W w.heap.size (.cells #[.int .i64 t.kind,.string t.text,.int .i64 t.cols,.slice A t.kids.length cap] 24)→zAc W (w.heap.size + 1) (.cells #[.slice Ap p.length cp,.slice Am m.length cm] 33)→W.cell? ⟨w.heap.size,0,none⟩ = some (.int .i64 t.kind)∧W.cell? ⟨w.heap.size,1,none⟩ = some (.string t.text)∧W.cell? ⟨w.heap.size,2,none⟩ = some (.int .i64 t.cols)∧W.cell? ⟨w.heap.size,3,none⟩ = some (.slice A t.kids.length cap)∧W.cell? ⟨w.heap.size + 1,0,none⟩ = some (.slice Ap p.length cp)∧W.cell? ⟨w.heap.size + 1,1,none⟩ = some (.slice Am m.length cm)):=fun W h1 h2=>⟨h1.cell 0,h1.cell 1,h1.cell 2,h1.cell 3,h2.cell 0,h2.cell 1⟩
 have CC:Hid (∀ W,Below w.heap.size w W→Calls Tryz.prog 136 #[.agg #[.int .i64 t.kind,.string t.text,.int .i64 t.cols,.slice A t.kids.length cap],.agg #[.slice Ap p.length cp,.slice Am m.length cm]] W (BetV W (ofS t p m))):=fun W hW=>zLa t p m A Ap Am cap cp cm W (hv.below hW hW.size) hok.2.2 hct (hp.below hW hW.size) (hm.below hW hW.size)
 have HE:=hid (zIf t p m back)
 have HIN:=hid (And.intro hv (And.intro hok (And.intro hct (And.intro hp (And.intro hm (And.intro hpl hml))))))
 obtain ⟨RES,hRES⟩:∃ RES,zD3 t p m back = RES:=⟨_,rfl⟩
 rw [hRES] at HE ⊢
 obtain ⟨m0,m1,m2,m3,n0,n1⟩:=CELL.out W0 ho1 ho2
 clear hv hok hct hp hm hpl hml hb0 ho1 ho2 hRES
 go_enter Tryz.func93,Tryz.ntmps93
 go_wp2_with fail
 obtain ⟨⟨⟨rr,ra,rb⟩,se⟩,hof⟩:∃ OF,ofS t p m = OF:=⟨_,rfl⟩
 have HOF:=hid hof
 rw [hof] at CC HE
 refine (CC.out _ HB0.out).mono ?_
 rintro e w1 ⟨v1,rfl,hr1,hb1⟩
 simp only at hr1
 obtain ⟨Ar,cr,rfl⟩:=hr1.form
 have HB1:=hid (HB0.out.trans (hb1.mono HB0.out.size))
 have HO1:=hid (HO1.out.below hb1)
 have HO2:=hid (HO2.out.below hb1)
 have HG:=hid (HO3.out.below hb1)
 clear hb1 m0 m1 m2 m3 n0 n1 CC hof HB0 HO3 hW0
 go_upto_region 2 with (first
  | (refine wpList_store_row rfl 46 (.tmp 8) (.tmp 24) rfl w1.heap.size _ rfl rfl 46 _ (zAc.at0 _ _) (by kernel_rfl) (by simp) (by simp [Value.oneCell']) ?_)
  | fail)
 generalize hX:World.setRow _ _ _ = X
 have hbx:Below w1.heap.size w1 X:=by rw [← hX];exact zAk (blA w1 _) (Nat.le_refl _) _
 have HOS:Hid (zAc X w1.heap.size (.cells #[.slice Ar rr.length cr,.int .i64 ra,.int .i64 rb] 46)):=by show zAc _ _ _;rw [← hX];exact (zAc.at0 w1 _).row _
 have HNE:Hid (w1.heap.size≠w.heap.size + 1 + 1):=fun e=>Nat.lt_irrefl _ (e ▸ HG.out.lt)
 have HO1:=hid (HO1.out.below hbx)
 have HO2:=hid (HO2.out.below hbx)
 have HG:=hid (HG.out.below hbx)
 have HWB:=hid (HB1.out.trans (hbx.mono HB1.out.size))
 have HN1:Hid (w.heap.size≠w.heap.size + 1 + 1):=by show _≠_;omega
 have HN2:Hid (w.heap.size + 1≠w.heap.size + 1 + 1):=by show _≠_;omega
 have HRR:=hid ((hr1.keep (fun _ _=>rfl) (fun k hk=>hk.2):zAh w1 (Lt w1.heap.size) rr _).below hbx hbx.size)
 obtain ⟨gs,hgs⟩:∃ gs,w1.heap.size = gs:=⟨_,rfl⟩
 simp only [hgs] at HOS HNE ⊢
 clear hX hbx hr1 HB1 hgs
 by_cases hse:se = 0
 rotate_left
 ·have hse':(se != 0) = true:=by simp [hse]
  have HR:=hid (HE.out.1 hse)
  clear HE hse
  go_wp2_with (first
   | (refine wpList_store_row rfl 36 (.tmp 6) (.tmp 28) rfl (w.heap.size + 1 + 1) _ rfl rfl 36 _ HG.out (by kernel_rfl) (by simp) (by simp [Value.oneCell']) ?_)
   | fail)
  refine bodyPost_ret (v:=.tuple #[.agg #[.slice none 0 0,.slice none 0 0,.slice none 0 0,.slice none 0 0,.slice none 0 0],.int .i64 se]) (zAj Tryz.results93 _ _ _ (w.heap.size + 1 + 1) 36 _ (0,0) _ rfl (HG.out.row _) rfl Tryz.underlying36 (by kernel_rfl) _ rfl) rfl ?_
  rw [HR.out]
  exact zJ8 se (zAk HWB.out (by omega) _)
 subst hse
 have HE2:=hid (HE.out.2.1 rr ra rb rfl)
 have HE3:=hid (HE.out.2.2 rr ra rb rfl)
 have s1:X.cell? ⟨gs,1,none⟩ = some (.int .i64 ra):=HOS.out.cell 1
 have s2:X.cell? ⟨gs,2,none⟩ = some (.int .i64 rb):=HOS.out.cell 2
 have HF:=hid (of_facts HOF.out HIN.out.2.2.2.2.2.1 HIN.out.2.2.2.2.2.2)
 have CDN:Hid (∀ ops pos W Ao co Aq cq,FewO ops→RES = zD9 t p m ops pos []→Below X.heap.size X W→zAa opE W (Lt W.heap.size) ops (.slice Ao ops.length co)→zAh W (Lt W.heap.size) pos (.slice Aq pos.length cq)→Calls Tryz.prog 138 #[.agg #[.int .i64 t.kind,.string t.text,.int .i64 t.cols,.slice A t.kids.length cap],.agg #[.slice Ap p.length cp,.slice Am m.length cm],.slice Ao ops.length co,.slice Aq pos.length cq] W (RecB W RES)):=fun ops pos W Ao co Aq cq hf hr hW h1 h2=>by
  have hw:=HWB.out.trans (hW.mono HWB.out.size)
  rw [hr]
  exact zMn t p m pos ops A Ap Am Ao Aq cap cp cm co cq W (HIN.out.1.below hw hw.size) HIN.out.2.1 HIN.out.2.2.1 (HIN.out.2.2.2.1.below hw hw.size) (HIN.out.2.2.2.2.1.below hw hw.size) h2 h1 (by have:=hf.1;omega) hf.at_
 clear HE
 by_cases hlt:ra < rb
 ·have i1:decide (ra < rb) = true:=decide_eq_true hlt
  have HRES:=hid (HE2.out hlt)
  obtain ⟨l9,hl9⟩:∃ l9,(zCd t rr ra rb).1 = l9:=⟨_,rfl⟩
  have hcl:cutL rr ra l9 = [zBs rr ra l9]:=by
   have h2:=(zN4 (t:=t) (p:=p) (m:=m) (by rw [HOF.out])).2
   rw [HOF.out] at h2
   simp only at h2
   rw [hl9] at h2
   exact if_neg (by omega)
  have hxc:zAd l9≤1000:=by rw [← hl9];exact zH5 HF.out.1 rr ra rb
  have hfw:FewO [zBs rr ra l9]:=by rw [← hcl];exact (cutL_few rr ra hxc).1
  obtain ⟨ops,hops⟩:∃ ops,[zBs rr ra l9] = ops:=⟨_,rfl⟩
  obtain ⟨pos,hpos⟩:∃ pos,rr ++ [ra] = pos:=⟨_,rfl⟩
  have HRF:Hid (RES = zD9 t p m ops pos []∧FewO ops):=⟨by rw [HRES.out,hl9,hops,hpos],hops ▸ hfw⟩
  have HCU:Hid (∀ W,Below X.heap.size X W→Calls Tryz.prog 137 #[.agg #[.int .i64 t.kind,.string t.text,.int .i64 t.cols,.slice A t.kids.length cap],.agg #[.slice Ar rr.length cr,.int .i64 ra,.int .i64 rb]] W (OpsP W ops)):=fun W hW=>by
   have hw:=HWB.out.trans (hW.mono HWB.out.size)
   have h9:=zOq t rr ra rb A Ar cap cr W (HIN.out.1.below hw hw.size) HIN.out.2.1 HIN.out.2.2.1 (HRR.out.below hW hW.size) (zA2 (by have:=HF.out;omega)) (zA2 (by have:=HF.out;omega))
   rwa [hl9,hcl,hops] at h9
  have HSC:Hid (∀ W,Below X.heap.size X W→Calls Tryz.prog 140 #[.agg #[.slice Ar rr.length cr,.int .i64 ra,.int .i64 rb]] W (zGi W pos)):=fun W hW=>by rw [← hpos];exact zOm rr ra rb _ W (HRR.out.below hW hW.size) (by have:=HF.out;omega) (zA2 (by have:=HF.out;omega))
  have HDN:=hid (fun W Ao co Aq cq (hW:Below X.heap.size X W) h1 h2=>CDN.out ops pos W Ao co Aq cq HRF.out.2 HRF.out.1 hW h1 h2)
  have HW:Hid (Below X.heap.size X X):=hid (Below.refl _ _)
  clear hlt hl9 hcl HE2 HE3 hops hpos hxc hfw CDN HRES
  go_upto_region 5 with fail
  clear s1 s2 i1
  refine wp_region_noPanic ?_
  refine wp_region_held_drew (S:=fun w'=>Kept (fun k=>k = w.heap.size + 1 + 1) X w') (by kernel_rfl) (kwt HW.out) (fun hHeld=>?_)
  refine wpAnyH_take (i:=0) (oi:=⟨some 35,_,_,_,_,_⟩) (v:=_) rfl (by kernel_rfl) (by kernel_rfl) (by kernel_rfl) (fun _ _ _ h=>h) (zB6 24 (.tmp 3) rfl (by rfl) _ rfl (fun w hS=>hS.obj HO1.out HN1.out) Tryz.underlying24 (by kernel_rfl)) hHeld ?_
  try simp only [qP,qN,qS,qZ,qC]
  refine wpAnyH_take (i:=1) (oi:=⟨some 36,_,_,_,_,_⟩) (v:=_) rfl (by kernel_rfl) (by kernel_rfl) (by kernel_rfl) (fun _ _ _ h=>h) (zB6 33 (.tmp 4) rfl (by rfl) _ rfl (fun w hS=>hS.obj HO2.out HN2.out) Tryz.underlying33 (by kernel_rfl)) hHeld ?_
  try simp only [qP,qN,qS,qZ,qC]
  refine wpAnyH_take (i:=2) (oi:=⟨some 37,_,_,_,_,_⟩) (v:=_) rfl (by kernel_rfl) (by kernel_rfl) (by kernel_rfl) (fun _ _ _ h=>h) (zB6 24 (.tmp 3) rfl (by rfl) _ rfl (fun w hS=>hS.obj HO1.out HN1.out) Tryz.underlying24 (by kernel_rfl)) hHeld ?_
  try simp only [qP,qN,qS,qZ,qC]
  refine wpAnyH_take (i:=3) (oi:=⟨some 38,_,_,_,_,_⟩) (v:=_) rfl (by kernel_rfl) (by kernel_rfl) (by kernel_rfl) (fun _ _ _ h=>h) (zB6 46 (.tmp 8) rfl (by rfl) _ rfl (fun w hS=>hS.obj HOS.out HNE.out) Tryz.underlying46 (by kernel_rfl)) hHeld ?_
  try simp only [qP,qN,qS,qZ,qC]
  refine wpAnyH_take (i:=5) (oi:=⟨some 40,_,_,_,_,_⟩) (v:=_) rfl (by kernel_rfl) (by kernel_rfl) (by kernel_rfl) (fun _ _ _ h=>h) (zB6 46 (.tmp 8) rfl (by rfl) _ rfl (fun w hS=>hS.obj HOS.out HNE.out) Tryz.underlying46 (by kernel_rfl)) hHeld ?_
  try simp only [qP,qN,qS,qZ,qC]
  refine wpAnyH_ready (rs:=[4]) (by kernel_rfl) (by simp) ?_
  refine (AllReadyH.cons (o:=⟨some 39,_,_,_,_,_⟩) rfl (fun K hK=>?_) AllReadyH.nil)
  go_simp
  refine Calls.mono (HCU.out _ (bwt HW.out)) ?_
  rintro e w7 ⟨v7,rfl,hr7,hb7⟩
  obtain ⟨Ao,co,rfl⟩:=hr7.form
  have HPO:=hid hr7
  have HW:=hid ((bwt HW.out).trans (hb7.mono (bwt HW.out).size))
  clear hr7 hb7
  refine hK.out _ _ (kwt HW.out) (fun hHeld=>?_)
  clear hK K
  try simp only [qP,qN,qS,qZ,qC]
  refine wpAnyH_ready (rs:=[6]) (by kernel_rfl) (by simp) ?_
  refine (AllReadyH.cons (o:=⟨some 41,_,_,_,_,_⟩) rfl (fun K hK=>?_) AllReadyH.nil)
  go_simp
  refine Calls.mono (HSC.out _ (bwt HW.out)) ?_
  rintro e w8 ⟨v8,rfl,hr8,hb8⟩
  obtain ⟨Aq,cq,rfl⟩:=hr8.form
  have HPP:=hid hr8
  have HPO:=hid (HPO.out.below hb8 hb8.size)
  have HW:=hid ((bwt HW.out).trans (hb8.mono (bwt HW.out).size))
  clear hr8 hb8
  refine hK.out _ _ (kwt HW.out) (fun hHeld=>?_)
  clear hK K
  try simp only [qP,qN,qS,qZ,qC]
  refine wpAnyH_ready (rs:=[7]) (by kernel_rfl) (by simp) ?_
  refine (AllReadyH.cons (o:=⟨some 42,_,_,_,_,_⟩) rfl (fun K hK=>?_) AllReadyH.nil)
  go_simp
  refine Calls.mono (HDN.out _ _ _ _ _ (bwt HW.out) HPO.out HPP.out) ?_
  rintro e wk hrec
  have HREC:=hid hrec
  obtain ⟨Ao9,co9,Ap9,cp9,Am9,cm9,Aap9,cap9,Aam9,cam9,rfl,_,_,_,_,_,hbw⟩:=hrec
  have HW:=hid ((bwt HW.out).trans (hbw.mono (bwt HW.out).size))
  have HGW:=hid (HG.out.below HW.out)
  clear hbw
  refine hK.out _ _ (kwt HW.out) (fun hHeld=>?_)
  clear hK K
  try simp only [qP,qN,qS,qZ,qC]
  refine wpAnyH_take (i:=8) (oi:=⟨some 43,_,_,_,_,_⟩) (v:=_) rfl (by kernel_rfl) (by kernel_rfl) (by kernel_rfl) (fun _ _ _ h=>h) (Or.inl ⟨by rfl,fun W hS=>by clear hS;go_simp;try with_reducible rfl⟩) hHeld ?_
  try simp only [qP,qN,qS,qZ,qC]
  refine wpAnyH_take (i:=9) (oi:=⟨some 44,_,_,_,_,_⟩) (v:=_) rfl (by kernel_rfl) (by kernel_rfl) (by kernel_rfl) (fun _ _ _ h=>h) (Or.inl ⟨by rfl,fun W hS=>by clear hS;go_simp;try with_reducible rfl⟩) hHeld ?_
  try simp only [qP,qN,qS,qZ,qC]
  refine wpAnyH_ready (rs:=[10]) (by kernel_rfl) (by simp) ?_
  refine (AllReadyH.cons (o:=⟨none,_,_,_,_,_⟩) rfl (fun K hK=>?_) AllReadyH.nil)
  rw [if_pos (by rfl)]
  refine wp_store_row 36 (.tmp 6) (.tmp 43) rfl (w.heap.size + 1 + 1) #[.slice Ao9 RES.1.ops.length co9,.slice Ap9 RES.1.bp.length cp9,.slice Am9 RES.1.bm.length cm9,.slice Aap9 RES.1.ap.length cap9,.slice Aam9 RES.1.am.length cam9] rfl rfl 36 _ HGW.out (by kernel_rfl) (by simp) (by simp [Value.oneCell']) ?_
  refine zCq HGW.out (fun X9 HX9=>?_)
  refine hK.out _ _ ((kwt HW.out).trans' HX9.out.1) (fun hHeld=>?_)
  clear hK K
  try simp only [qP,qN,qS,qZ,qC]
  refine wpAnyH_take (i:=11) (oi:=⟨some 7,_,_,_,_,_⟩) (v:=_) rfl (by kernel_rfl) (by kernel_rfl) (by kernel_rfl) (fun _ _ _ h=>h) (Or.inl ⟨by rfl,fun W hS=>by clear hS;go_simp;try with_reducible rfl⟩) hHeld ?_
  try simp only [qP,qN,qS,qZ,qC]
  refine wpAnyH_done (by kernel_rfl) ?_ _
  refine NoPanic.normal ?_
  go_wp2_with fail
  refine bodyPost_ret (v:=.tuple #[.agg #[.slice Ao9 RES.1.ops.length co9,.slice Ap9 RES.1.bp.length cp9,.slice Am9 RES.1.bm.length cm9,.slice Aap9 RES.1.ap.length cap9,.slice Aam9 RES.1.am.length cam9],.int .i64 RES.2]) (zAj Tryz.results93 _ _ _ (w.heap.size + 1 + 1) 36 _ (0,0) _ rfl HX9.out.2.1 rfl Tryz.underlying36 (by kernel_rfl) _ rfl) rfl ?_
  exact RecB.put (arr:=#[]) HREC.out HGW.out HX9.out.1 HX9.out.2.2 (HWB.out.trans (HW.out.mono HWB.out.size)) (by omega)
 have HT:=hid (HE3.out (by omega))
 have i1:decide (ra < rb) = false:=decide_eq_false hlt
 obtain ⟨hvt,hpin,-,-⟩:=zMv (t:=t) (p:=p) (m:=m) (by rw [HOF.out])
 obtain ⟨q,o,hpe⟩:∃ q o,p = q ++ [o]:=by
  have h1:=zF3 _ _ hpin
  exact ⟨p.dropLast,p.getLast (by intro e;subst e;simp at h1),(List.dropLast_concat_getLast _).symm⟩
 have hpos:=hpin
 rw [hpe] at hpos
 obtain ⟨hf,ho0,hol⟩:=zF2 hpos
 have hcq:=zCe t q
 have hkc:=zAn (zAm t q).1
 have hvc:=(zA0 hvt).1
 have hln:p.length = q.length + 1:=by rw [hpe];simp
 have hrow:=zDn hvt hf
 have hT:=erT_at (o:=o) (q:=q) hpe back m (t:=t)
 obtain ⟨its,hits⟩:∃ its,(zAg t q).1.kids = its:=⟨_,rfl⟩
 rw [hits] at hT
 have hT2:=HT.out.trans hT
 obtain ⟨n,hn⟩:∃ n,q.length = n:=⟨_,rfl⟩
 obtain ⟨gp,op,rfl,hgp,hcp⟩:=zGp (HIN.out.2.2.2.1) (by omega)
 have hgp:gp < w.heap.size:=hgp
 have hcc:p.length≤cp:=by obtain ⟨_,_,_,hq,h1,_⟩:=HIN.out.2.2.2.1;cases hq;exact h1
 obtain ⟨A1,hs1,hc1⟩:=zL3 intE Tryz.underlying31 zCm (some ⟨gp,op,none⟩) p.length cp (n:Int) n rfl (by omega) hcc
 have HQ:Hid (∀ W,Below w.heap.size w W→zAh W (Lt W.heap.size) q (.slice A1 n cp)):=fun W hW=>by
  have h9:=hc1 W (Lt W.heap.size) p (HIN.out.2.2.2.1.below hW hW.size)
  rwa [show p.take n = q by rw [hpe,← hn];simp] at h9
 have KP:Hid (∀ W,Below w.heap.size w W→W.cell? ⟨gp,op + n,none⟩ = some (.int .i64 o)):=fun W hW=>((hW.cell (p:=⟨gp,_,none⟩) hgp).trans (hcp n (by omega))).trans (by simp [hpe,← hn])
 have v3:IntKind.i64.wrap ((p.length:Int) - 1) = (n:Int):=by rw [show (p.length:Int) - 1 = (n:Int) by omega];exact IntWalk.i64_in _ (by have:=HIN.out.2.2.2.2.2.1;omega)
 have j0:(0:Int)≤(n:Int):=by omega
 have j1:(n:Int) < (p.length:Int):=by omega
 have HFF:=hid (show o≤1000∧0≤o∧n≤90000∧zAd its≤1000 from ⟨by omega,by omega,by have:=HIN.out.2.2.2.2.2.1;omega,by
  have h3:=zA7 (zAm t q).1
  rw [← hits,hrow]
  simp only
  omega⟩)
 have HQL:=hid hn
 have HTT:=hid hT2
 have k0:=KP.out X HWB.out
 obtain ⟨nx,hnx⟩:∃ nx,(if back then o - 1 else o) = nx:=⟨_,rfl⟩
 rw [hnx] at HTT
 obtain ⟨m0,m1,m2,m3,n0,n1⟩:=CELL.out X HO1.out HO2.out
 have HVT:=hid hvt
 clear hgp hvt hpin hpe hpos hf ho0 hol hcq hkc hvc hln hn hcp hcc hc1 HE2 HE3 HT hT hT2 hrow hlt HOS HNE HRR
 go_upto_region 6 with fail
 go_quiet (fail)
 have HW:Hid (Below X.heap.size X (X.drewN nq)):=hid (zFn (Below.refl _ _))
 have HWB2:Hid (Below w.heap.size w (X.drewN nq)):=hid (zFn HWB.out)
 have HO1:Hid (zAc (X.drewN nq) w.heap.size (.cells #[.int .i64 t.kind,.string t.text,.int .i64 t.cols,.slice A t.kids.length cap] 24)):=hid HO1.out
 have HO2:Hid (zAc (X.drewN nq) (w.heap.size + 1) (.cells #[.slice (some ⟨gp,op,none⟩) p.length cp,.slice Am m.length cm] 33)):=hid HO2.out
 have HG:Hid (zAc (X.drewN nq) (w.heap.size + 1 + 1) (.cells #[.slice none 0 0,.slice none 0 0,.slice none 0 0,.slice none 0 0,.slice none 0 0] 36)):=hid HG.out
 clear k0 m0 m1 m2 m3 n0 n1 hs1 v3 j0 j1 KP i1 s1 s2
 generalize X.drewN nq = V at *
 have CRW:Hid (∀ W,Below w.heap.size w W→Calls Tryz.prog 48 #[.agg #[.int .i64 t.kind,.string t.text,.int .i64 t.cols,.slice A t.kids.length cap],.slice A1 n cp] W (RowP (Lt W.heap.size) W (zAg t q).1.kind (zAg t q).1.text (zAg t q).1.cols its (zAg t q).2)):=fun W hW=>by
  have h9:=zF0 t q A A1 cap cp W (Lt W.heap.size) (fun _ h=>h) (HIN.out.1.below hW hW.size) HIN.out.2.1.2.2 HIN.out.2.2.1 (by rw [HQL.out];exact HQ.out W hW)
  rwa [HQL.out,hits] at h9
 generalize (zAg t q).1.kind = rk9 at *
 generalize (zAg t q).1.text = rx9 at *
 generalize (zAg t q).1.cols = rc9 at *
 generalize (zAg t q).2 = re9 at *
 obtain ⟨m0,m1,m2,m3,n0,n1⟩:=CELL.out V HO1.out HO2.out
 clear hits
 go_wp2_with fail
 refine (CRW.out _ HWB2.out).mono ?_
 rintro e w2 ⟨v2,rfl,hr2,hb2⟩
 obtain ⟨A2,c2,rfl⟩:=hr2.form
 have HW:=hid (HW.out.trans (hb2.mono HW.out.size))
 have HO1:=hid (HO1.out.below hb2)
 have HO2:=hid (HO2.out.below hb2)
 have HG:=hid (HG.out.below hb2)
 have HRW:Hid (zAa zAb w2 (Lt w2.heap.size) its (.slice A2 its.length c2)):=hid (hr2.keep (fun _ _=>rfl) (fun k hk=>Nat.lt_of_lt_of_le hk hb2.size))
 clear hr2 hb2 m0 m1 m2 m3 n0 n1 CRW HWB2
 go_upto_region 8 with fail
 generalize hY:World.alloc w2 _ = Y
 have hby:Below w2.heap.size w2 Y:=by rw [← hY];exact blA _ _
 have hrb:zAc Y w2.heap.size (.cells #[.int .i64 rk9,.string rx9,.int .i64 rc9,.slice A2 its.length c2] 24):=by rw [← hY];exact zAc.at0 _ _
 have HNW:Hid (w2.heap.size≠w.heap.size + 1 + 1):=fun e=>Nat.lt_irrefl _ (e ▸ HG.out.lt)
 have HRB:=hid hrb
 have HO1:=hid (HO1.out.below hby)
 have HO2:=hid (HO2.out.below hby)
 have HG:=hid (HG.out.below hby)
 have HRW:=hid (HRW.out.below hby hby.size)
 have HW:=hid (HW.out.trans (hby.mono HW.out.size))
 obtain ⟨gw,hgw⟩:∃ gw,w2.heap.size = gw:=⟨_,rfl⟩
 simp only [hgw] at HRB HNW ⊢
 clear hY hby hrb hgw
 have HSD:Hid (∀ W,Below w.heap.size w W→Calls Tryz.prog 144 #[.agg #[.int .i64 t.kind,.string t.text,.int .i64 t.cols,.slice A t.kids.length cap],.slice (some ⟨gp,op,none⟩) p.length cp,.int .i64 (if back then -1 else 1)] W (zIt W (zDy t p (if back then -1 else 1)))):=fun W hW=>zPu t p (if back then -1 else 1) (by cases back <;> simp) A cap _ W (HIN.out.1.below hW hW.size) HIN.out.2.1.2.2 HIN.out.2.2.1 (HIN.out.2.2.2.1.below hW hW.size)
 have HV1:Hid (IntKind.i64.wrap (o - 1) = o - 1):=IntWalk.i64_in _ (by have:=HFF.out;omega)
 have HNB:=hid (show -1≤nx∧nx≤1000 from by have:=HFF.out;cases back <;> simp at hnx <;> omega)
 have HSTE:Hid (zEj t p m back = if (zDy t p (if back then -1 else 1)).2≠0 then (recZ,(zDy t p (if back then -1 else 1)).2) else zD9 t p m [] (zDy t p (if back then -1 else 1)).1 []):=rfl
 obtain ⟨sg,hsg⟩:∃ sg:Int,(if back then -1 else 1) = sg:=⟨_,rfl⟩
 rw [hsg] at HSD HSTE
 have HNX:=hid hnx
 have HSG:=hid hsg
 have HVA:=hid HV1.out
 clear hnx hsg HV1
 go_upto_if 67 with fail
 go_cut [14,15] from 66 to 69 (fun n s wx=>n = .int .i64 nx∧s = .int .i64 sg∧wx = Y)
 case first =>
  have h1:=HNX.out
  have h2:=HSG.out
  have v1:=HVA.out
  cases back
  ·simp only [Bool.false_eq_true,if_false] at h1 h2
   go_wp2_with fail
   go_meet
   exact ⟨by rw [h1],by rw [h2],rfl⟩
  ·simp only [if_true] at h1 h2
   rw [h1] at v1
   go_wp2_with fail
   go_meet
   exact ⟨by first | rfl | rw [h1] | simp [h1],by first | rfl | rw [h2] | simp [h2],rfl⟩
 case rest =>
 obtain ⟨rfl,rfl,hwc⟩:=hcut
 rw [hwc]
 clear hwc HVA HNX
 have HWB3:=hid (HWB.out.trans (HW.out.mono HWB.out.size))
 have CDN2:Hid (∀ ops pos W Ao co Aq cq,FewO ops→RES = zD9 t p m ops pos []→Below Y.heap.size Y W→zAa opE W (Lt W.heap.size) ops (.slice Ao ops.length co)→zAh W (Lt W.heap.size) pos (.slice Aq pos.length cq)→Calls Tryz.prog 138 #[.agg #[.int .i64 t.kind,.string t.text,.int .i64 t.cols,.slice A t.kids.length cap],.agg #[.slice (some ⟨gp,op,none⟩) p.length cp,.slice Am m.length cm],.slice Ao ops.length co,.slice Aq pos.length cq] W (RecB W RES)):=fun ops pos W Ao co Aq cq hf hr hW h1 h2=>CDN.out ops pos W Ao co Aq cq hf hr (HW.out.trans (hW.mono HW.out.size)) h1 h2
 have y3:Y.cell? ⟨gw,3,none⟩ = some (.slice A2 its.length c2):=HRB.out.cell 3
 clear CDN
 go_upto_region 11 with fail
 go_cut [78] (fun v wx=>v = .bool (decide (0≤nx∧nx < (its.length:Int)))∧wx = Y)
 case first =>
  by_cases h1:0≤nx
  ·have i1:decide (0≤nx) = true:=decide_eq_true h1
   by_cases h2:nx < (its.length:Int)
   ·have i2:decide (nx < (its.length:Int)) = true:=decide_eq_true h2
    go_wp2_with fail
    go_meet
    exact ⟨congrArg Value.bool (decide_eq_true (by omega)).symm,rfl⟩
   ·have i2:decide (nx < (its.length:Int)) = false:=decide_eq_false h2
    go_wp2_with fail
    go_meet
    exact ⟨congrArg Value.bool (decide_eq_false (by omega)).symm,rfl⟩
  ·have i1:decide (0≤nx) = false:=decide_eq_false h1
   go_wp2_with fail
   go_meet
   exact ⟨congrArg Value.bool (decide_eq_false (by omega)).symm,rfl⟩
 case rest =>
 obtain ⟨rfl,hwc⟩:=hcut
 rw [hwc]
 clear hwc
 generalize hbT:decide (0≤nx∧nx < (its.length:Int)) = bT
 go_upto_if 78 with fail
 go_cut [16] from 79 to 152 (fun _ wx=>Below Y.heap.size Y wx∧RES = zEj t p m back)
 case first =>
  rename_i J9 K9 m9 a9
  cases bT
  case true =>
   have hA:=of_decide_eq_true hbT
   clear hbT
   obtain ⟨k,rfl⟩:∃ k:Nat,nx = (k:Int):=⟨nx.toNat,by omega⟩
   have hk:k < its.length:=by omega
   have HTT:=hid (HTT.out.trans (if_pos hA))
   have hie:zD8 its (k:Int).toNat = its[k]:=by simp [zD8,hk]
   rw [hie] at HTT
   obtain ⟨_,_,rs,hq,hic,him,hrd,hls⟩:=HRW.out
   cases hq
   obtain ⟨gx,ox,Bx,bx,rs2,rfl,hgx,x0,x1,x2,x3,hx8,hx9,hx7,hx5,hx6,hrx,hlx⟩:=zAy hrd hls hk
   have HXR:Hid (zAa zAb Y (Lt Y.heap.size) its[k].kids (.slice Bx its[k].kids.length bx)):=⟨_,_,rs2,rfl,hx5,hx6,hrx,hlx⟩
   have CX:=hid (zFk its[k] Bx bx (-1) Y HXR.out)
   have HXK:Hid (zAu its[k]):=⟨hx8,hx9,hx7⟩
   have HXC:Hid (zAd [its[k]]≤100000):=by
    have h1:=zIl hk
    have:=HFF.out
    show zAe its[k] + 0≤_
    omega
   have i0:(0:Int)≤(k:Int):=by omega
   have i1:(k:Int) < (its.length:Int):=by omega
   clear hA hie hrd hls hrx hlx hx5 hx6 hx7 hx8 hx9 hic him hgx
   generalize its[k] = it9 at *
   clear hk
   obtain ⟨bc,hbc⟩:∃ bc,zCf it9.kids 0 (-1) = bc:=⟨_,rfl⟩
   rw [hbc] at CX HTT
   clear hbc
   go_wp2_with fail
   refine CX.out.mono ?_
   rintro e w5 ⟨rfl,hb5⟩
   cases bc
   case true =>
    have HRS:=hid (HTT.out.trans (if_neg (by simp)))
    have HB5:=hid hb5
    clear HTT hb5 x0 x1 x2 x3 y3 i0 i1
    have HBR:=HB5
    go_wp2_with fail
    go_meet
    exact ⟨HBR.out,HRS.out⟩
   case false =>
    clear m9 a9
    have HR:Hid (RES = zD9 t p m [zBs q (k:Int) [it9]] (q ++ [(k:Int)]) []):=hid (HTT.out.trans (if_pos rfl))
    have hgx:gx≠w.heap.size + 1 + 1:=by
     intro e
     obtain ⟨_,_,_,e9⟩:=slb5 HG.out _ _ (e ▸ x0)
     cases e9
    have hgl:gx < Y.heap.size:=World.block_lt_of_cell? Y _ x0
    have HKX:Hid (∀ W,Kept (fun k=>k = w.heap.size + 1 + 1) w5 W→W.cell? ⟨gx,ox + k * 4,none⟩ = some (.int .i64 it9.kind)∧W.cell? ⟨gx,ox + k * 4 + 1,none⟩ = some (.string it9.text)∧W.cell? ⟨gx,ox + k * 4 + 2,none⟩ = some (.int .i64 it9.cols)∧W.cell? ⟨gx,ox + k * 4 + 3,none⟩ = some (.slice Bx it9.kids.length bx)):=fun W hW=>by
     have h5:gx < w5.heap.size:=Nat.lt_of_lt_of_le hgl hb5.size
     exact ⟨((hW.cell (p:=⟨gx,_,none⟩) h5 hgx).trans (hb5.cell (p:=⟨gx,_,none⟩) hgl)).trans x0,((hW.cell (p:=⟨gx,_,none⟩) h5 hgx).trans (hb5.cell (p:=⟨gx,_,none⟩) hgl)).trans x1,((hW.cell (p:=⟨gx,_,none⟩) h5 hgx).trans (hb5.cell (p:=⟨gx,_,none⟩) hgl)).trans x2,((hW.cell (p:=⟨gx,_,none⟩) h5 hgx).trans (hb5.cell (p:=⟨gx,_,none⟩) hgl)).trans x3⟩
    have HXR:=hid (HXR.out.below hb5 hb5.size)
    have HO1:=hid (HO1.out.below hb5)
    have HO2:=hid (HO2.out.below hb5)
    have HRB:=hid (HRB.out.below hb5)
    have HG:=hid (HG.out.below hb5)
    have HWB:=hid (HWB3.out.trans (hb5.mono HWB3.out.size))
    have HB5:=hid hb5
    obtain ⟨pos,hpos⟩:∃ pos,q ++ [(k:Int)] = pos:=⟨_,rfl⟩
    rw [hpos] at HR
    have hk64:In64 (k:Int):=zA2 (by have:=HNB.out;omega)
    have HAT:Hid (∀ W g,zAc W g (.cells #[.int .i64 (k:Int)] 3)→Below w5.heap.size w5 W→Calls Tryz.prog 139 #[.slice A1 n cp,.slice (some ⟨g,0,none⟩) 1 1] W (zGi W pos)):=fun W g ho hW=>by
     rw [← hpos]
     have hw:=HWB.out.trans (hW.mono HWB.out.size)
     have h9:=zLb q [(k:Int)] A1 (some ⟨g,0,none⟩) cp 1 W (by rw [HQL.out];exact HQ.out W hw) (zHs (E:=intE) (cs:=[.int .i64 (k:Int)]) ho ⟨rfl,hk64⟩ ho.lt) (by have:=HFF.out;have:=HQL.out;simp;omega)
     rw [HQL.out] at h9
     exact h9.mono fun e w' h=>zD7.ints h
    have HDN:Hid (∀ W ga gb Aq cq,zAc W ga (.cells #[.int .i64 it9.kind,.string it9.text,.int .i64 it9.cols,.slice Bx it9.kids.length bx] 24)→zAc W gb (.cells #[.int .i64 2,.slice A1 n cp,.int .i64 (k:Int),.int .i64 0,.slice (some ⟨ga,0,none⟩) 1 1,.int .i64 0,.string ⟨#[]⟩,.string ⟨#[]⟩] 67)→Below w5.heap.size w5 W→zAh W (Lt W.heap.size) pos (.slice Aq pos.length cq)→Calls Tryz.prog 138 #[.agg #[.int .i64 t.kind,.string t.text,.int .i64 t.cols,.slice A t.kids.length cap],.agg #[.slice (some ⟨gp,op,none⟩) p.length cp,.slice Am m.length cm],.slice (some ⟨gb,0,none⟩) 1 1,.slice Aq pos.length cq] W (RecB W RES)):=fun W ga gb Aq cq ha hb hW hp9=>by
     have hw5:=HB5.out.trans (hW.mono HB5.out.size)
     have hw:=HWB.out.trans (hW.mono HWB.out.size)
     have hit:zAa zAb W (Lt W.heap.size) [it9] (.slice (some ⟨ga,0,none⟩) 1 1):=zHs (E:=zAb) ha (zB1.2 ⟨_,rfl,HXK.out.1,HXK.out.2.1,HXK.out.2.2,HXR.out.below hW hW.size⟩) ha.lt
     have hop:opE.R W (Lt W.heap.size) (zBs q (k:Int) [it9]) [.int .i64 2,.slice A1 n cp,.int .i64 (k:Int),.int .i64 0,.slice (some ⟨ga,0,none⟩) 1 1,.int .i64 0,.string ⟨#[]⟩,.string ⟨#[]⟩]:=⟨_,_,rfl,by simp [zBs,In64],hk64,by simp [zBs,In64],by simp [zBs,In64],Nat.zero_le _,Nat.zero_le _,HQ.out W hw,hit⟩
     exact CDN2.out [zBs q (k:Int) [it9]] pos W (some ⟨gb,0,none⟩) 1 Aq cq ⟨by simp,fun op9 h9=>by rw [List.mem_singleton.1 h9];exact HXC.out⟩ HR.out hw5 (zHs (E:=opE) hb hop hb.lt) hp9
    have HW:Hid (Below w5.heap.size w5 w5):=hid (Below.refl _ _)
    clear HTT hb5 x0 x1 x2 x3 y3 hgx hgl hpos hk64 HSTE HSD CDN2 HB5 HRW HXR
    go_upto_region 13 with fail
    apply zH4
    case' h =>
     intro KEY
     refine wp_region_noPanic ?_
     refine wp_region_held_drew (S:=fun w'=>Kept (fun k=>k = w.heap.size + 1 + 1) w5 w') (by kernel_rfl) (kwt HW.out) (fun hHeld=>?_)
     refine wpAnyH_take (i:=0) (oi:=⟨some 86,_,_,_,_,_⟩) (v:=_) rfl (by kernel_rfl) (by kernel_rfl) (by kernel_rfl) (fun _ _ _ h=>h) (zB6 24 (.tmp 3) rfl (by rfl) _ rfl (fun w hS=>hS.obj HO1.out HN1.out) Tryz.underlying24 (by kernel_rfl)) hHeld ?_
     try simp only [qP,qN,qS,qZ,qC]
     refine wpAnyH_take (i:=1) (oi:=⟨some 87,_,_,_,_,_⟩) (v:=_) rfl (by kernel_rfl) (by kernel_rfl) (by kernel_rfl) (fun _ _ _ h=>h) (zB6 33 (.tmp 4) rfl (by rfl) _ rfl (fun w hS=>hS.obj HO2.out HN2.out) Tryz.underlying33 (by kernel_rfl)) hHeld ?_
     try simp only [qP,qN,qS,qZ,qC]
     refine wpAnyH_take (i:=2) (oi:=⟨some 88,_,_,_,_,_⟩) (v:=_) rfl (by kernel_rfl) (by kernel_rfl) (by kernel_rfl) (fun _ _ _ h=>h) (Or.inl ⟨by rfl,fun W hS=>by clear hS;go_simp;try with_reducible rfl⟩) hHeld ?_
     try simp only [qP,qN,qS,qZ,qC]
     refine wpAnyH_take (i:=3) (oi:=⟨some 89,_,_,_,_,_⟩) (v:=_) rfl (by kernel_rfl) (by kernel_rfl) (by kernel_rfl) (fun _ _ _ h=>h) (Or.inl ⟨by rfl,fun W hS=>by clear hS;go_simp;try with_reducible rfl⟩) hHeld ?_
     try simp only [qP,qN,qS,qZ,qC]
     refine wpAnyH_take (i:=4) (oi:=⟨some 90,_,_,_,_,_⟩) (v:=_) rfl (by kernel_rfl) (by kernel_rfl) (by kernel_rfl) (fun _ _ _ h=>h) (Or.inl ⟨by rfl,fun W hS=>by clear hS;go_simp;try with_reducible rfl⟩) hHeld ?_
     try simp only [qP,qN,qS,qZ,qC]
     refine wpAnyH_take (i:=5) (oi:=⟨some 91,_,_,_,_,_⟩) (v:=_) rfl (by kernel_rfl) (by kernel_rfl) (by kernel_rfl) (fun _ _ _ h=>h) (Or.inl ⟨by rfl,fun W hS=>by have h:W.cell? ⟨gw,3,none⟩ = some (.slice (some ⟨gx,ox,none⟩) its.length c2):=(hS.obj HRB.out HNW.out).cell 3;clear hS;go_simp;try with_reducible rfl⟩) hHeld ?_
     try simp only [qP,qN,qS,qZ,qC]
     refine wpAnyH_take (i:=6) (oi:=⟨some 92,_,_,_,_,_⟩) (v:=_) rfl (by kernel_rfl) (by kernel_rfl) (by kernel_rfl) (fun _ _ _ h=>h) (Or.inl ⟨by rfl,fun W hS=>by clear hS;go_simp;try with_reducible rfl⟩) hHeld ?_
     try simp only [qP,qN,qS,qZ,qC]
     refine wpAnyH_take (i:=7) (oi:=⟨some 93,_,_,_,_,_⟩) (v:=_) rfl (by kernel_rfl) (by kernel_rfl) (by kernel_rfl) (fun _ _ _ h=>h) (Or.inl ⟨by rfl,fun W hS=>by clear hS;go_simp;try with_reducible rfl⟩) hHeld ?_
     try simp only [qP,qN,qS,qZ,qC]
     refine wpAnyH_take (i:=8) (oi:=⟨some 94,_,_,_,_,_⟩) (v:=_) rfl (by kernel_rfl) (by kernel_rfl) (by kernel_rfl) (fun _ _ _ h=>h) (Or.inl ⟨by rfl,fun W hS=>by obtain ⟨x0,x1,x2,x3⟩:=HKX.out W hS;clear hS;go_simp;try with_reducible rfl⟩) hHeld ?_
     try simp only [qP,qN,qS,qZ,qC]
     refine wpAnyH_take (i:=12) (oi:=⟨some 98,_,_,_,_,_⟩) (v:=_) rfl (by kernel_rfl) (by kernel_rfl) (by kernel_rfl) (fun _ _ _ h=>h) (Or.inl ⟨by rfl,fun W hS=>by clear hS;go_simp;try with_reducible rfl⟩) hHeld ?_
     try simp only [qP,qN,qS,qZ,qC]
     refine wpAnyH_take (i:=13) (oi:=⟨some 99,_,_,_,_,_⟩) (v:=_) rfl (by kernel_rfl) (by kernel_rfl) (by kernel_rfl) (fun _ _ _ h=>h) (Or.inl ⟨by rfl,fun W hS=>by clear hS;go_simp;try with_reducible rfl⟩) hHeld ?_
     try simp only [qP,qN,qS,qZ,qC]
     refine wpAnyH_ready (rs:=[9,14]) (by kernel_rfl) (by simp) ?_
     refine (AllReadyH.cons (o:=⟨some 95,_,_,_,_,_⟩) rfl (fun K hK=>?_) (AllReadyH.cons (o:=⟨some 100,_,_,_,_,_⟩) rfl (fun K hK=>?_) AllReadyH.nil))
     go_simp
     first | refine zBr (fun Wl HXR=>?_) | refine zBe (fun Wl HXR=>?_)
     try replace HBo:=hid (HBo.out.below HXR.out.1)
     try replace HC:=hid (HC.out.below HXR.out.1)
     try replace HPP:=hid (HPP.out.below HXR.out.1 HXR.out.1.size)
     replace HW:=hid ((bwt HW.out).trans (HXR.out.1.mono (bwt HW.out).size))
     have HA:=hid HXR.out.2
     obtain ⟨gA,hg9⟩:=zCx HXR
     clear HXR
     simp only [hg9] at HA ⊢
     clear hg9
     refine hK.out _ _ (kwt HW.out) (fun hHeld=>?_)
     clear hK K
     try simp only [qP,qN,qS,qZ,qC]
     refine wpAnyH_take (i:=10) (oi:=⟨some 96,_,_,_,_,_⟩) (v:=_) rfl (by kernel_rfl) (by kernel_rfl) (by kernel_rfl) (fun _ _ _ h=>h) (Or.inl ⟨by rfl,fun W hS=>by clear hS;go_simp;try with_reducible rfl⟩) hHeld ?_
     try simp only [qP,qN,qS,qZ,qC]
     refine wpAnyH_ready (rs:=[11,14]) (by kernel_rfl) (by simp) ?_
     refine (AllReadyH.cons (o:=⟨some 97,_,_,_,_,_⟩) rfl (fun K hK=>?_) (AllReadyH.cons (o:=⟨some 100,_,_,_,_,_⟩) rfl (fun K hK=>?_) AllReadyH.nil))
     go_simp
     first | refine zBr (fun Wl HXR=>?_) | refine zBe (fun Wl HXR=>?_)
     try replace HA:=hid (HA.out.below HXR.out.1)
     try replace HC:=hid (HC.out.below HXR.out.1)
     try replace HPP:=hid (HPP.out.below HXR.out.1 HXR.out.1.size)
     replace HW:=hid ((bwt HW.out).trans (HXR.out.1.mono (bwt HW.out).size))
     have HBo:=hid HXR.out.2
     obtain ⟨gB,hg9⟩:=zCx HXR
     clear HXR
     simp only [hg9] at HBo ⊢
     clear hg9
     refine hK.out _ _ (kwt HW.out) (fun hHeld=>?_)
     clear hK K
     try simp only [qP,qN,qS,qZ,qC]
     refine wpAnyH_ready (rs:=[14]) (by kernel_rfl) (by simp) ?_
     refine (AllReadyH.cons (o:=⟨some 100,_,_,_,_,_⟩) rfl (fun K hK=>?_) AllReadyH.nil)
     go_simp
     first | refine zBr (fun Wl HXR=>?_) | refine zBe (fun Wl HXR=>?_)
     try replace HA:=hid (HA.out.below HXR.out.1)
     try replace HBo:=hid (HBo.out.below HXR.out.1)
     try replace HPP:=hid (HPP.out.below HXR.out.1 HXR.out.1.size)
     replace HW:=hid ((bwt HW.out).trans (HXR.out.1.mono (bwt HW.out).size))
     have HC:=hid HXR.out.2
     obtain ⟨gC,hg9⟩:=zCx HXR
     clear HXR
     simp only [hg9] at HC ⊢
     clear hg9
     refine hK.out _ _ (kwt HW.out) (fun hHeld=>?_)
     clear hK K
     try simp only [qP,qN,qS,qZ,qC]
     refine wpAnyH_ready (rs:=[15]) (by kernel_rfl) (by simp) ?_
     refine (AllReadyH.cons (o:=⟨some 101,_,_,_,_,_⟩) rfl (fun K hK=>?_) AllReadyH.nil)
     go_simp
     refine Calls.mono (HAT.out _ _ HC.out (bwt HW.out)) ?_
     rintro e Wl ⟨vq,rfl,hrq,hbq⟩
     obtain ⟨Aq,cq,rfl⟩:=hrq.form
     have HPP:=hid hrq
     try replace HA:=hid (HA.out.below hbq)
     try replace HBo:=hid (HBo.out.below hbq)
     try replace HC:=hid (HC.out.below hbq)
     replace HW:=hid ((bwt HW.out).trans (hbq.mono (bwt HW.out).size))
     clear hrq hbq
     refine hK.out _ _ (kwt HW.out) (fun hHeld=>?_)
     clear hK K
     try simp only [qP,qN,qS,qZ,qC]
     clear HC
     revert hHeld
     revert HW
     revert HPP
     revert HBo
     revert HA
     revert cq
     revert Aq
     revert Wl
     revert gA
     revert gB
     revert gC
     exact KEY
     go_simp
     first | refine zBr (fun Wl HXR=>?_) | refine zBe (fun Wl HXR=>?_)
     try replace HA:=hid (HA.out.below HXR.out.1)
     try replace HBo:=hid (HBo.out.below HXR.out.1)
     try replace HPP:=hid (HPP.out.below HXR.out.1 HXR.out.1.size)
     replace HW:=hid ((bwt HW.out).trans (HXR.out.1.mono (bwt HW.out).size))
     have HC:=hid HXR.out.2
     obtain ⟨gC,hg9⟩:=zCx HXR
     clear HXR
     simp only [hg9] at HC ⊢
     clear hg9
     refine hK.out _ _ (kwt HW.out) (fun hHeld=>?_)
     clear hK K
     try simp only [qP,qN,qS,qZ,qC]
     refine wpAnyH_ready (rs:=[11,15]) (by kernel_rfl) (by simp) ?_
     refine (AllReadyH.cons (o:=⟨some 97,_,_,_,_,_⟩) rfl (fun K hK=>?_) (AllReadyH.cons (o:=⟨some 101,_,_,_,_,_⟩) rfl (fun K hK=>?_) AllReadyH.nil))
     go_simp
     first | refine zBr (fun Wl HXR=>?_) | refine zBe (fun Wl HXR=>?_)
     try replace HA:=hid (HA.out.below HXR.out.1)
     try replace HC:=hid (HC.out.below HXR.out.1)
     try replace HPP:=hid (HPP.out.below HXR.out.1 HXR.out.1.size)
     replace HW:=hid ((bwt HW.out).trans (HXR.out.1.mono (bwt HW.out).size))
     have HBo:=hid HXR.out.2
     obtain ⟨gB,hg9⟩:=zCx HXR
     clear HXR
     simp only [hg9] at HBo ⊢
     clear hg9
     refine hK.out _ _ (kwt HW.out) (fun hHeld=>?_)
     clear hK K
     try simp only [qP,qN,qS,qZ,qC]
     refine wpAnyH_ready (rs:=[15]) (by kernel_rfl) (by simp) ?_
     refine (AllReadyH.cons (o:=⟨some 101,_,_,_,_,_⟩) rfl (fun K hK=>?_) AllReadyH.nil)
     go_simp
     refine Calls.mono (HAT.out _ _ HC.out (bwt HW.out)) ?_
     rintro e Wl ⟨vq,rfl,hrq,hbq⟩
     obtain ⟨Aq,cq,rfl⟩:=hrq.form
     have HPP:=hid hrq
     try replace HA:=hid (HA.out.below hbq)
     try replace HBo:=hid (HBo.out.below hbq)
     try replace HC:=hid (HC.out.below hbq)
     replace HW:=hid ((bwt HW.out).trans (hbq.mono (bwt HW.out).size))
     clear hrq hbq
     refine hK.out _ _ (kwt HW.out) (fun hHeld=>?_)
     clear hK K
     try simp only [qP,qN,qS,qZ,qC]
     clear HC
     revert hHeld
     revert HW
     revert HPP
     revert HBo
     revert HA
     revert cq
     revert Aq
     revert Wl
     revert gA
     revert gB
     revert gC
     exact KEY
     go_simp
     refine Calls.mono (HAT.out _ _ HC.out (bwt HW.out)) ?_
     rintro e Wl ⟨vq,rfl,hrq,hbq⟩
     obtain ⟨Aq,cq,rfl⟩:=hrq.form
     have HPP:=hid hrq
     try replace HA:=hid (HA.out.below hbq)
     try replace HBo:=hid (HBo.out.below hbq)
     try replace HC:=hid (HC.out.below hbq)
     replace HW:=hid ((bwt HW.out).trans (hbq.mono (bwt HW.out).size))
     clear hrq hbq
     refine hK.out _ _ (kwt HW.out) (fun hHeld=>?_)
     clear hK K
     try simp only [qP,qN,qS,qZ,qC]
     refine wpAnyH_ready (rs:=[11]) (by kernel_rfl) (by simp) ?_
     refine (AllReadyH.cons (o:=⟨some 97,_,_,_,_,_⟩) rfl (fun K hK=>?_) AllReadyH.nil)
     go_simp
     first | refine zBr (fun Wl HXR=>?_) | refine zBe (fun Wl HXR=>?_)
     try replace HA:=hid (HA.out.below HXR.out.1)
     try replace HC:=hid (HC.out.below HXR.out.1)
     try replace HPP:=hid (HPP.out.below HXR.out.1 HXR.out.1.size)
     replace HW:=hid ((bwt HW.out).trans (HXR.out.1.mono (bwt HW.out).size))
     have HBo:=hid HXR.out.2
     obtain ⟨gB,hg9⟩:=zCx HXR
     clear HXR
     simp only [hg9] at HBo ⊢
     clear hg9
     refine hK.out _ _ (kwt HW.out) (fun hHeld=>?_)
     clear hK K
     try simp only [qP,qN,qS,qZ,qC]
     clear HC
     revert hHeld
     revert HW
     revert HPP
     revert HBo
     revert HA
     revert cq
     revert Aq
     revert Wl
     revert gA
     revert gB
     revert gC
     exact KEY
     go_simp
     first | refine zBr (fun Wl HXR=>?_) | refine zBe (fun Wl HXR=>?_)
     try replace HA:=hid (HA.out.below HXR.out.1)
     try replace HBo:=hid (HBo.out.below HXR.out.1)
     try replace HPP:=hid (HPP.out.below HXR.out.1 HXR.out.1.size)
     replace HW:=hid ((bwt HW.out).trans (HXR.out.1.mono (bwt HW.out).size))
     have HC:=hid HXR.out.2
     obtain ⟨gC,hg9⟩:=zCx HXR
     clear HXR
     simp only [hg9] at HC ⊢
     clear hg9
     refine hK.out _ _ (kwt HW.out) (fun hHeld=>?_)
     clear hK K
     try simp only [qP,qN,qS,qZ,qC]
     refine wpAnyH_ready (rs:=[9,15]) (by kernel_rfl) (by simp) ?_
     refine (AllReadyH.cons (o:=⟨some 95,_,_,_,_,_⟩) rfl (fun K hK=>?_) (AllReadyH.cons (o:=⟨some 101,_,_,_,_,_⟩) rfl (fun K hK=>?_) AllReadyH.nil))
     go_simp
     first | refine zBr (fun Wl HXR=>?_) | refine zBe (fun Wl HXR=>?_)
     try replace HBo:=hid (HBo.out.below HXR.out.1)
     try replace HC:=hid (HC.out.below HXR.out.1)
     try replace HPP:=hid (HPP.out.below HXR.out.1 HXR.out.1.size)
     replace HW:=hid ((bwt HW.out).trans (HXR.out.1.mono (bwt HW.out).size))
     have HA:=hid HXR.out.2
     obtain ⟨gA,hg9⟩:=zCx HXR
     clear HXR
     simp only [hg9] at HA ⊢
     clear hg9
     refine hK.out _ _ (kwt HW.out) (fun hHeld=>?_)
     clear hK K
     try simp only [qP,qN,qS,qZ,qC]
     refine wpAnyH_take (i:=10) (oi:=⟨some 96,_,_,_,_,_⟩) (v:=_) rfl (by kernel_rfl) (by kernel_rfl) (by kernel_rfl) (fun _ _ _ h=>h) (Or.inl ⟨by rfl,fun W hS=>by clear hS;go_simp;try with_reducible rfl⟩) hHeld ?_
     try simp only [qP,qN,qS,qZ,qC]
     refine wpAnyH_ready (rs:=[11,15]) (by kernel_rfl) (by simp) ?_
     refine (AllReadyH.cons (o:=⟨some 97,_,_,_,_,_⟩) rfl (fun K hK=>?_) (AllReadyH.cons (o:=⟨some 101,_,_,_,_,_⟩) rfl (fun K hK=>?_) AllReadyH.nil))
     go_simp
     first | refine zBr (fun Wl HXR=>?_) | refine zBe (fun Wl HXR=>?_)
     try replace HA:=hid (HA.out.below HXR.out.1)
     try replace HC:=hid (HC.out.below HXR.out.1)
     try replace HPP:=hid (HPP.out.below HXR.out.1 HXR.out.1.size)
     replace HW:=hid ((bwt HW.out).trans (HXR.out.1.mono (bwt HW.out).size))
     have HBo:=hid HXR.out.2
     obtain ⟨gB,hg9⟩:=zCx HXR
     clear HXR
     simp only [hg9] at HBo ⊢
     clear hg9
     refine hK.out _ _ (kwt HW.out) (fun hHeld=>?_)
     clear hK K
     try simp only [qP,qN,qS,qZ,qC]
     refine wpAnyH_ready (rs:=[15]) (by kernel_rfl) (by simp) ?_
     refine (AllReadyH.cons (o:=⟨some 101,_,_,_,_,_⟩) rfl (fun K hK=>?_) AllReadyH.nil)
     go_simp
     refine Calls.mono (HAT.out _ _ HC.out (bwt HW.out)) ?_
     rintro e Wl ⟨vq,rfl,hrq,hbq⟩
     obtain ⟨Aq,cq,rfl⟩:=hrq.form
     have HPP:=hid hrq
     try replace HA:=hid (HA.out.below hbq)
     try replace HBo:=hid (HBo.out.below hbq)
     try replace HC:=hid (HC.out.below hbq)
     replace HW:=hid ((bwt HW.out).trans (hbq.mono (bwt HW.out).size))
     clear hrq hbq
     refine hK.out _ _ (kwt HW.out) (fun hHeld=>?_)
     clear hK K
     try simp only [qP,qN,qS,qZ,qC]
     clear HC
     revert hHeld
     revert HW
     revert HPP
     revert HBo
     revert HA
     revert cq
     revert Aq
     revert Wl
     revert gA
     revert gB
     revert gC
     exact KEY
     go_simp
     refine Calls.mono (HAT.out _ _ HC.out (bwt HW.out)) ?_
     rintro e Wl ⟨vq,rfl,hrq,hbq⟩
     obtain ⟨Aq,cq,rfl⟩:=hrq.form
     have HPP:=hid hrq
     try replace HA:=hid (HA.out.below hbq)
     try replace HBo:=hid (HBo.out.below hbq)
     try replace HC:=hid (HC.out.below hbq)
     replace HW:=hid ((bwt HW.out).trans (hbq.mono (bwt HW.out).size))
     clear hrq hbq
     refine hK.out _ _ (kwt HW.out) (fun hHeld=>?_)
     clear hK K
     try simp only [qP,qN,qS,qZ,qC]
     refine wpAnyH_ready (rs:=[11]) (by kernel_rfl) (by simp) ?_
     refine (AllReadyH.cons (o:=⟨some 97,_,_,_,_,_⟩) rfl (fun K hK=>?_) AllReadyH.nil)
     go_simp
     first | refine zBr (fun Wl HXR=>?_) | refine zBe (fun Wl HXR=>?_)
     try replace HA:=hid (HA.out.below HXR.out.1)
     try replace HC:=hid (HC.out.below HXR.out.1)
     try replace HPP:=hid (HPP.out.below HXR.out.1 HXR.out.1.size)
     replace HW:=hid ((bwt HW.out).trans (HXR.out.1.mono (bwt HW.out).size))
     have HBo:=hid HXR.out.2
     obtain ⟨gB,hg9⟩:=zCx HXR
     clear HXR
     simp only [hg9] at HBo ⊢
     clear hg9
     refine hK.out _ _ (kwt HW.out) (fun hHeld=>?_)
     clear hK K
     try simp only [qP,qN,qS,qZ,qC]
     clear HC
     revert hHeld
     revert HW
     revert HPP
     revert HBo
     revert HA
     revert cq
     revert Aq
     revert Wl
     revert gA
     revert gB
     revert gC
     exact KEY
     go_simp
     refine Calls.mono (HAT.out _ _ HC.out (bwt HW.out)) ?_
     rintro e Wl ⟨vq,rfl,hrq,hbq⟩
     obtain ⟨Aq,cq,rfl⟩:=hrq.form
     have HPP:=hid hrq
     try replace HA:=hid (HA.out.below hbq)
     try replace HBo:=hid (HBo.out.below hbq)
     try replace HC:=hid (HC.out.below hbq)
     replace HW:=hid ((bwt HW.out).trans (hbq.mono (bwt HW.out).size))
     clear hrq hbq
     refine hK.out _ _ (kwt HW.out) (fun hHeld=>?_)
     clear hK K
     try simp only [qP,qN,qS,qZ,qC]
     refine wpAnyH_ready (rs:=[9]) (by kernel_rfl) (by simp) ?_
     refine (AllReadyH.cons (o:=⟨some 95,_,_,_,_,_⟩) rfl (fun K hK=>?_) AllReadyH.nil)
     go_simp
     first | refine zBr (fun Wl HXR=>?_) | refine zBe (fun Wl HXR=>?_)
     try replace HBo:=hid (HBo.out.below HXR.out.1)
     try replace HC:=hid (HC.out.below HXR.out.1)
     try replace HPP:=hid (HPP.out.below HXR.out.1 HXR.out.1.size)
     replace HW:=hid ((bwt HW.out).trans (HXR.out.1.mono (bwt HW.out).size))
     have HA:=hid HXR.out.2
     obtain ⟨gA,hg9⟩:=zCx HXR
     clear HXR
     simp only [hg9] at HA ⊢
     clear hg9
     refine hK.out _ _ (kwt HW.out) (fun hHeld=>?_)
     clear hK K
     try simp only [qP,qN,qS,qZ,qC]
     refine wpAnyH_take (i:=10) (oi:=⟨some 96,_,_,_,_,_⟩) (v:=_) rfl (by kernel_rfl) (by kernel_rfl) (by kernel_rfl) (fun _ _ _ h=>h) (Or.inl ⟨by rfl,fun W hS=>by clear hS;go_simp;try with_reducible rfl⟩) hHeld ?_
     try simp only [qP,qN,qS,qZ,qC]
     refine wpAnyH_ready (rs:=[11]) (by kernel_rfl) (by simp) ?_
     refine (AllReadyH.cons (o:=⟨some 97,_,_,_,_,_⟩) rfl (fun K hK=>?_) AllReadyH.nil)
     go_simp
     first | refine zBr (fun Wl HXR=>?_) | refine zBe (fun Wl HXR=>?_)
     try replace HA:=hid (HA.out.below HXR.out.1)
     try replace HC:=hid (HC.out.below HXR.out.1)
     try replace HPP:=hid (HPP.out.below HXR.out.1 HXR.out.1.size)
     replace HW:=hid ((bwt HW.out).trans (HXR.out.1.mono (bwt HW.out).size))
     have HBo:=hid HXR.out.2
     obtain ⟨gB,hg9⟩:=zCx HXR
     clear HXR
     simp only [hg9] at HBo ⊢
     clear hg9
     refine hK.out _ _ (kwt HW.out) (fun hHeld=>?_)
     clear hK K
     try simp only [qP,qN,qS,qZ,qC]
     clear HC
     revert hHeld
     revert HW
     revert HPP
     revert HBo
     revert HA
     revert cq
     revert Aq
     revert Wl
     revert gA
     revert gB
     revert gC
     exact KEY
    case k =>
     intro gC gB gA Wl Aq cq HA HBo HPP HW hHeld
     refine wpAnyH_ready (rs:=[16]) (by kernel_rfl) (by simp) ?_
     refine (AllReadyH.cons (o:=⟨some 102,_,_,_,_,_⟩) rfl (fun K hK=>?_) AllReadyH.nil)
     go_simp
     refine Calls.mono (HDN.out _ _ _ _ _ HA.out HBo.out (bwt HW.out) HPP.out) ?_
     rintro e wk hrec
     have HREC:=hid hrec
     obtain ⟨Ao9,co9,Ap9,cp9,Am9,cm9,Aap9,cap9,Aam9,cam9,rfl,_,_,_,_,_,hbw⟩:=hrec
     have HW:=hid ((bwt HW.out).trans (hbw.mono (bwt HW.out).size))
     have HGW:=hid (HG.out.below HW.out)
     clear hbw
     refine hK.out _ _ (kwt HW.out) (fun hHeld=>?_)
     clear hK K
     try simp only [qP,qN,qS,qZ,qC]
     refine wpAnyH_take (i:=17) (oi:=⟨some 103,_,_,_,_,_⟩) (v:=_) rfl (by kernel_rfl) (by kernel_rfl) (by kernel_rfl) (fun _ _ _ h=>h) (Or.inl ⟨by rfl,fun W hS=>by clear hS;go_simp;try with_reducible rfl⟩) hHeld ?_
     try simp only [qP,qN,qS,qZ,qC]
     refine wpAnyH_take (i:=18) (oi:=⟨some 104,_,_,_,_,_⟩) (v:=_) rfl (by kernel_rfl) (by kernel_rfl) (by kernel_rfl) (fun _ _ _ h=>h) (Or.inl ⟨by rfl,fun W hS=>by clear hS;go_simp;try with_reducible rfl⟩) hHeld ?_
     try simp only [qP,qN,qS,qZ,qC]
     refine wpAnyH_ready (rs:=[19]) (by kernel_rfl) (by simp) ?_
     refine (AllReadyH.cons (o:=⟨none,_,_,_,_,_⟩) rfl (fun K hK=>?_) AllReadyH.nil)
     rw [if_pos (by rfl)]
     refine wp_store_row 36 (.tmp 6) (.tmp 103) rfl (w.heap.size + 1 + 1) #[.slice Ao9 RES.1.ops.length co9,.slice Ap9 RES.1.bp.length cp9,.slice Am9 RES.1.bm.length cm9,.slice Aap9 RES.1.ap.length cap9,.slice Aam9 RES.1.am.length cam9] rfl rfl 36 _ HGW.out (by kernel_rfl) (by simp) (by simp [Value.oneCell']) ?_
     refine zCq HGW.out (fun X9 HX9=>?_)
     refine hK.out _ _ ((kwt HW.out).trans' HX9.out.1) (fun hHeld=>?_)
     clear hK K
     try simp only [qP,qN,qS,qZ,qC]
     refine wpAnyH_take (i:=20) (oi:=⟨some 7,_,_,_,_,_⟩) (v:=_) rfl (by kernel_rfl) (by kernel_rfl) (by kernel_rfl) (fun _ _ _ h=>h) (Or.inl ⟨by rfl,fun W hS=>by clear hS;go_simp;try with_reducible rfl⟩) hHeld ?_
     try simp only [qP,qN,qS,qZ,qC]
     refine wpAnyH_done (by kernel_rfl) ?_ _
     refine NoPanic.normal ?_
     first | refine (‹∀ (a:Act) (w_1:World),Code.wp Tryz.prog Code.ret (Exit.then K9 (bodyPost Tryz.prog Tryz.f93 (RecB w RES))) a w_1→_›) _ _ (wp_ret ?_) | refine (‹∀ (a:Act) (w_1:World),Code.wp Tryz.prog Code.ret (Exit.then _ (Exit.then K9 (bodyPost Tryz.prog Tryz.f93 (RecB w RES)))) a w_1→_›) _ _ (wp_ret ?_)
     refine bodyPost_ret (v:=.tuple #[.agg #[.slice Ao9 RES.1.ops.length co9,.slice Ap9 RES.1.bp.length cp9,.slice Am9 RES.1.bm.length cm9,.slice Aap9 RES.1.ap.length cap9,.slice Aam9 RES.1.am.length cam9],.int .i64 RES.2]) (zAj Tryz.results93 _ _ _ (w.heap.size + 1 + 1) 36 _ (0,0) _ rfl HX9.out.2.1 rfl Tryz.underlying36 (by kernel_rfl) _ rfl) rfl ?_
     exact RecB.put (arr:=#[]) HREC.out HGW.out HX9.out.1 HX9.out.2.2 (HWB.out.trans (HW.out.mono HWB.out.size)) (by omega)
  case false =>
   have hA:=of_decide_eq_false hbT
   clear hbT
   have HTT:=hid (HTT.out.trans (if_neg hA))
   have HAR:=hid (zKb t p A (some ⟨gp,op,none⟩) cap cp Y (HIN.out.1.below HWB3.out HWB3.out.size) HIN.out.2.1.2.2 HIN.out.2.2.1 (HIN.out.2.2.2.1.below HWB3.out HWB3.out.size) HIN.out.2.2.2.2.2.1)
   have HAF:Hid (∀ d,aroS t p = some d→zAu d.item∧zAe d.item≤1000∧d.row.length≤90000∧0≤d.at_∧d.at_≤1000∧∃ s':Nat,d.own = s'∧s' < d.item.kids.length):=fun d hd=>zQx (m:=m) HIN.out.1 (by rw [HOF.out]) HIN.out.2.2.2.2.2.1 hd
   obtain ⟨m0,m1,m2,m3,n0,n1⟩:=CELL.out Y HO1.out HO2.out
   clear hA
   go_wp2_with fail
   refine HAR.out.mono ?_
   rintro e w7 ⟨hb7,hx⟩
   have HB7:=hid hb7
   clear y3 m0 m1 m2 m3 n0 n1 HAR HRB HNW HRW hb7
   rcases hx with ⟨hno,rfl⟩ | ⟨⟨dr,da,ds,di⟩,Ar,cr,Ai,ci,hso,rfl,hir,hik⟩
   ·have h9:=HTT.out
    rw [hno] at h9
    simp only at h9
    have HRS:=hid h9
    clear h9 hno HTT HAF
    go_upto_region 15 with (first
     | (refine wpList_store_row rfl 158 (.tmp 16) (.tmp 110) rfl w7.heap.size _ rfl rfl 158 _ (zAc.at0 _ _) (by kernel_rfl) (by simp) (by simp [Value.oneCell']) ?_)
     | fail)
    generalize hX:World.setRow _ _ _ = X7
    have hbx:Below w7.heap.size w7 X7:=by rw [← hX];exact zAk (blA w7 _) (Nat.le_refl _) _
    have HBR:=hid (HB7.out.trans (hbx.mono HB7.out.size))
    clear hX hbx
    go_wp2_with fail
    go_meet
    exact ⟨HBR.out,HRS.out⟩
   ·have h9:=HTT.out
    rw [hso] at h9
    simp only at h9
    have HRS:=hid h9
    have HAF:=hid (HAF.out _ hso)
    obtain ⟨-,-,-,-,-,s',rfl,-⟩:=HAF.out
    have HAF2:Hid (zAu di∧zAe di≤1000∧dr.length≤90000∧0≤da∧da≤1000∧s' < di.kids.length):=by
     obtain ⟨x1,x2,x3,x4,x5,s9,x6,x7⟩:=HAF.out
     exact ⟨x1,x2,x3,x4,x5,by simp only at x6 x7;omega⟩
    have HIR:Hid (zAh w7 (Lt w7.heap.size) dr (.slice Ar dr.length cr)∧zAa zAb w7 (Lt w7.heap.size) di.kids (.slice Ai di.kids.length ci)):=⟨hir.keep (fun _ _=>rfl) (fun k hk=>Nat.lt_of_lt_of_le hk HB7.out.size),hik.keep (fun _ _=>rfl) (fun k hk=>Nat.lt_of_lt_of_le hk HB7.out.size)⟩
    have HFW:Hid (FewO [unwS ⟨dr,da,(s':Int),di⟩]):=unw_few HAF2.out.2.1 rfl
    clear h9 hso HTT hir hik HAF
    go_upto_region 15 with (first
     | (refine wpList_store_row rfl 158 (.tmp 16) (.tmp 110) rfl w7.heap.size _ rfl rfl 158 _ (zAc.at0 _ _) (by kernel_rfl) (by simp) (by simp [Value.oneCell']) ?_)
     | fail)
    generalize hX:World.setRow _ _ _ = X7
    have hbx:Below w7.heap.size w7 X7:=by rw [← hX];exact zAk (blA w7 _) (Nat.le_refl _) _
    have HOA:Hid (zAc X7 w7.heap.size (.cells #[.slice Ar dr.length cr,.int .i64 da,.int .i64 (s':Int),.int .i64 di.kind,.string di.text,.int .i64 di.cols,.slice Ai di.kids.length ci] 158)):=by show zAc _ _ _;rw [← hX];exact (zAc.at0 w7 _).row _
    have HNA:Hid (w7.heap.size≠w.heap.size + 1 + 1):=fun e=>Nat.lt_irrefl _ (e ▸ (HG.out.below HB7.out).lt)
    have HIR:=hid (And.intro (HIR.out.1.below hbx hbx.size) (HIR.out.2.below hbx hbx.size))
    have HB7X:=hid (HB7.out.trans (hbx.mono HB7.out.size))
    obtain ⟨ga,hga⟩:∃ ga,w7.heap.size = ga:=⟨_,rfl⟩
    simp only [hga] at HOA HNA ⊢
    clear hX hbx hga
    obtain ⟨z0,z1,z2,z3,z4,z5,z6⟩:=(⟨HOA.out.cell 0,HOA.out.cell 1,HOA.out.cell 2,HOA.out.cell 3,HOA.out.cell 4,HOA.out.cell 5,HOA.out.cell 6⟩:X7.cell? ⟨ga,0,none⟩ = some (.slice Ar dr.length cr)∧X7.cell? ⟨ga,1,none⟩ = some (.int .i64 da)∧X7.cell? ⟨ga,2,none⟩ = some (.int .i64 (s':Int))∧X7.cell? ⟨ga,3,none⟩ = some (.int .i64 di.kind)∧X7.cell? ⟨ga,4,none⟩ = some (.string di.text)∧X7.cell? ⟨ga,5,none⟩ = some (.int .i64 di.cols)∧X7.cell? ⟨ga,6,none⟩ = some (.slice Ai di.kids.length ci))
    have CX:=hid (zFk di Ai ci (s':Int) X7 HIR.out.2)
    obtain ⟨bc,hbc⟩:∃ bc,zCf di.kids 0 (s':Int) = bc:=⟨_,rfl⟩
    rw [hbc] at CX HRS
    clear hbc
    go_wp2_with fail
    refine CX.out.mono ?_
    rintro e w8 ⟨rfl,hb8⟩
    have HB8:=hid hb8
    have HBR:=hid (HB7X.out.trans (hb8.mono HB7X.out.size))
    clear hb8 z0 z1 z2 z3 z4 z5 z6 CX
    cases bc
    case true =>
     have HRS:=hid (HRS.out.trans (if_neg (by simp)))
     clear HIR HOA HNA HFW HAF2 HB8 HB7X HB7
     go_wp2_with fail
     go_meet
     exact ⟨HBR.out,HRS.out⟩
    case false =>
     clear m9 a9
     have HR:=hid (HRS.out.trans (if_pos rfl))
     clear HRS HSTE HSD
     have HO1:=hid (HO1.out.below HBR.out)
     have HO2:=hid (HO2.out.below HBR.out)
     have HG:=hid (HG.out.below HBR.out)
     have HOA:=hid (HOA.out.below HB8.out)
     have HIR:=hid (And.intro (HIR.out.1.below HB8.out HB8.out.size) (HIR.out.2.below HB8.out HB8.out.size))
     obtain ⟨nn,hnn⟩:∃ nn:Int,nn = ((kidS di (s':Int)).kids.length:Int):=⟨_,rfl⟩
     obtain ⟨FL,hFL⟩:∃ FL,FL = zAr di ((s':Int).toNat) []:=⟨_,rfl⟩
     have hU:unwS ⟨dr,da,(s':Int),di⟩ = ⟨4,dr,da,nn,[FL],(s':Int),noT,noT⟩:=by rw [hnn,hFL];rfl
     have HUN:Hid (∀ W,Below w8.heap.size w8 W→Calls Tryz.prog 143 #[.agg #[.slice Ar dr.length cr,.int .i64 da,.int .i64 (s':Int),.int .i64 di.kind,.string di.text,.int .i64 di.cols,.slice Ai di.kids.length ci]] W fun e w'=>∃ Ao co An cn,e = .returned (.agg #[.int .i64 4,.slice Ao dr.length co,.int .i64 da,.int .i64 nn,.slice An [FL].length cn,.int .i64 (s':Int),.string noT,.string noT])∧zAh w' (Lt w'.heap.size) dr (.slice Ao dr.length co)∧zAa zAb w' (Lt w'.heap.size) [FL] (.slice An [FL].length cn)∧Below W.heap.size W w'):=fun W hW=>by
      have h9:=zKa (Lt W.heap.size) di s' dr da Ar Ai cr ci W (fun _ h=>h) (HIR.out.2.below hW hW.size) HAF2.out.1 (by have:=HAF2.out;omega) (HIR.out.1.below hW hW.size) HAF2.out.2.2.2.2.2
      rw [hU] at h9
      refine h9.mono ?_
      rintro e w' ⟨Ao,co,An,cn,rfl,h1,h2,h3⟩
      exact ⟨Ao,co,An,cn,rfl,h1.keep (fun _ _=>rfl) (fun k hk=>hk.1),h2.keep (fun _ _=>rfl) (fun k hk=>hk.1),h3⟩
     have HNN:Hid (0≤nn∧nn≤1000):=by
      have h1:=zAn (kidS di (s':Int))
      have h2:=zBy (t:=di) (i:=(s':Int)) (by simpa using HAF2.out.2.2.2.2.2)
      have h3:=zDg (t:=di) (i:=(s':Int).toNat) (by simpa using HAF2.out.2.2.2.2.2)
      have h4:=zA7 di
      rw [← h2] at h3
      have:=HAF2.out
      exact ⟨by omega,by omega⟩
     rw [hU] at HR HFW
     clear hU hnn hFL
     go_upto_region 17 with (first
      | (refine wpList_load_row rfl 158 (.tmp 16) rfl ga rfl 158 _ (0,0) _ HOA.out Tryz.underlying158 rfl (by kernel_rfl) ?_)
      | (go_at_call 143;refine Calls.mono (HUN.out _ (Below.refl _ _)) ?_;rintro e w9 ⟨Ao,co,An,cn,rfl,hro,hno9,hb9⟩;have HRO:=hid (And.intro hro hno9);have HB9:=hid hb9;clear hro hno9 hb9)
      | (refine wpList_store_row rfl 67 (.tmp 18) (.tmp 122) rfl w9.heap.size _ rfl rfl 67 _ (zAc.at0 _ _) (by kernel_rfl) (by simp) (by simp [Value.oneCell']) ?_)
      | fail)
     generalize hX:World.setRow _ _ _ = V9
     have hbx:Below w9.heap.size w9 V9:=by rw [← hX];exact zAk (blA w9 _) (Nat.le_refl _) _
     have HOD:Hid (zAc V9 w9.heap.size (.cells #[.int .i64 4,.slice Ao dr.length co,.int .i64 da,.int .i64 nn,.slice An [FL].length cn,.int .i64 (s':Int),.string noT,.string noT] 67)):=by show zAc _ _ _;rw [← hX];exact (zAc.at0 w9 _).row _
     have HG:=hid (HG.out.below HB9.out)
     have HNO:Hid (w9.heap.size≠w.heap.size + 1 + 1):=fun e=>Nat.lt_irrefl _ (e ▸ HG.out.lt)
     have HG:=hid (HG.out.below hbx)
     have hb8x:=HB9.out.trans (hbx.mono HB9.out.size)
     have HO1:=hid (HO1.out.below hb8x)
     have HO2:=hid (HO2.out.below hb8x)
     have HOA:=hid (HOA.out.below hb8x)
     have HIR:=hid (HIR.out.1.below hb8x hb8x.size)
     have HRO:=hid (And.intro (HRO.out.1.below hbx hbx.size) (HRO.out.2.below hbx hbx.size))
     have HBY:=hid (HBR.out.trans (hb8x.mono HBR.out.size))
     have HWB:=hid (HWB3.out.trans (HBY.out.mono HWB3.out.size))
     have HW:Hid (Below V9.heap.size V9 V9):=hid (Below.refl _ _)
     obtain ⟨gd,hgd⟩:∃ gd,w9.heap.size = gd:=⟨_,rfl⟩
     simp only [hgd] at HOD HNO ⊢
     clear hX hbx hgd hb8x
     have HDN:Hid (∀ pos W gb Aq cq,RES = zD9 t p m [⟨4,dr,da,nn,[FL],(s':Int),noT,noT⟩] pos []→zAc W gb (.cells #[.int .i64 4,.slice Ao dr.length co,.int .i64 da,.int .i64 nn,.slice An [FL].length cn,.int .i64 (s':Int),.string noT,.string noT] 67)→Below V9.heap.size V9 W→zAh W (Lt W.heap.size) pos (.slice Aq pos.length cq)→Calls Tryz.prog 138 #[.agg #[.int .i64 t.kind,.string t.text,.int .i64 t.cols,.slice A t.kids.length cap],.agg #[.slice (some ⟨gp,op,none⟩) p.length cp,.slice Am m.length cm],.slice (some ⟨gb,0,none⟩) 1 1,.slice Aq pos.length cq] W (RecB W RES)):=fun pos W gb Aq cq hr hb hW hp9=>by
      have hw5:=HBY.out.trans (hW.mono HBY.out.size)
      have hop:opE.R W (Lt W.heap.size) ⟨4,dr,da,nn,[FL],(s':Int),noT,noT⟩ [.int .i64 4,.slice Ao dr.length co,.int .i64 da,.int .i64 nn,.slice An [FL].length cn,.int .i64 (s':Int),.string noT,.string noT]:=⟨_,_,rfl,by simp [In64],zA2 (by have:=HAF2.out;simp only;omega),zA2 (by have:=HNN.out;simp only;omega),zA2 (by have:=HAF2.out;have:=zAn di;simp only;omega),Nat.zero_le _,Nat.zero_le _,HRO.out.1.below hW hW.size,HRO.out.2.below hW hW.size⟩
      exact CDN2.out [⟨4,dr,da,nn,[FL],(s':Int),noT,noT⟩] pos W (some ⟨gb,0,none⟩) 1 Aq cq HFW.out hr hw5 (zHs (E:=opE) hb hop hb.lt) hp9
     have HAT:Hid (∀ x W g,0≤x→x≤1000000→zAc W g (.cells #[.int .i64 x] 3)→Below V9.heap.size V9 W→Calls Tryz.prog 139 #[.slice Ar dr.length cr,.slice (some ⟨g,0,none⟩) 1 1] W (zGi W (dr ++ [x]))):=fun x W g h0 h1 ho hW=>by
      have h9:=zLb dr [x] Ar (some ⟨g,0,none⟩) cr 1 W (HIR.out.below hW hW.size) (zHs (E:=intE) (cs:=[.int .i64 x]) ho ⟨rfl,zA2 (by omega)⟩ ho.lt) (by have:=HAF2.out;simp;omega)
      exact h9.mono fun e w' h=>zD7.ints h
     clear HUN HIR HRO CDN2 HBY HBR HFW HB8 HB7X HB7 HB9 HWB3
     cases back
     case false =>
      simp only [Bool.false_eq_true,if_false] at HR
      have v9:IntKind.i64.wrap (da + nn) = da + nn:=IntWalk.i64_in _ (by have:=HAF2.out;have:=HNN.out;omega)
      have HRG:Hid (0≤da + nn∧da + nn≤1000000):=by have:=HAF2.out;have:=HNN.out;show _∧_;omega
      obtain ⟨pos,hpos⟩:∃ pos,dr ++ [da + nn] = pos:=⟨_,rfl⟩
      have hat:=HAT.out (da + nn)
      rw [hpos] at hat HR
      have HAT2:=hid hat
      clear hat hpos HAT
      go_upto_region 19 with fail
      apply zH4
      case' h =>
       intro KEY
       refine wp_region_noPanic ?_
       refine wp_region_held_drew (S:=fun w'=>Kept (fun k=>k = w.heap.size + 1 + 1) V9 w') (by kernel_rfl) (kwt HW.out) (fun hHeld=>?_)
       refine wpAnyH_take (i:=0) (oi:=⟨some 137,_,_,_,_,_⟩) (v:=_) rfl (by kernel_rfl) (by kernel_rfl) (by kernel_rfl) (fun _ _ _ h=>h) (zB6 24 (.tmp 3) rfl (by rfl) _ rfl (fun w hS=>hS.obj HO1.out HN1.out) Tryz.underlying24 (by kernel_rfl)) hHeld ?_
       try simp only [qP,qN,qS,qZ,qC]
       refine wpAnyH_take (i:=1) (oi:=⟨some 138,_,_,_,_,_⟩) (v:=_) rfl (by kernel_rfl) (by kernel_rfl) (by kernel_rfl) (fun _ _ _ h=>h) (zB6 33 (.tmp 4) rfl (by rfl) _ rfl (fun w hS=>hS.obj HO2.out HN2.out) Tryz.underlying33 (by kernel_rfl)) hHeld ?_
       try simp only [qP,qN,qS,qZ,qC]
       refine wpAnyH_take (i:=2) (oi:=⟨some 139,_,_,_,_,_⟩) (v:=_) rfl (by kernel_rfl) (by kernel_rfl) (by kernel_rfl) (fun _ _ _ h=>h) (zB6 67 (.tmp 18) rfl (by rfl) _ rfl (fun w hS=>hS.obj HOD.out HNO.out) Tryz.underlying67 (by kernel_rfl)) hHeld ?_
       try simp only [qP,qN,qS,qZ,qC]
       refine wpAnyH_take (i:=4) (oi:=⟨some 141,_,_,_,_,_⟩) (v:=_) rfl (by kernel_rfl) (by kernel_rfl) (by kernel_rfl) (fun _ _ _ h=>h) (Or.inl ⟨by rfl,fun W hS=>by clear hS;go_simp;try with_reducible rfl⟩) hHeld ?_
       try simp only [qP,qN,qS,qZ,qC]
       refine wpAnyH_take (i:=5) (oi:=⟨some 142,_,_,_,_,_⟩) (v:=_) rfl (by kernel_rfl) (by kernel_rfl) (by kernel_rfl) (fun _ _ _ h=>h) (Or.inl ⟨by rfl,fun W hS=>by have h:W.cell? ⟨ga,0,none⟩ = some (.slice Ar dr.length cr):=(hS.obj HOA.out HNA.out).cell 0;clear hS;go_simp;try with_reducible rfl⟩) hHeld ?_
       try simp only [qP,qN,qS,qZ,qC]
       refine wpAnyH_take (i:=6) (oi:=⟨some 143,_,_,_,_,_⟩) (v:=_) rfl (by kernel_rfl) (by kernel_rfl) (by kernel_rfl) (fun _ _ _ h=>h) (Or.inl ⟨by rfl,fun W hS=>by clear hS;go_simp;try with_reducible rfl⟩) hHeld ?_
       try simp only [qP,qN,qS,qZ,qC]
       refine wpAnyH_take (i:=7) (oi:=⟨some 144,_,_,_,_,_⟩) (v:=_) rfl (by kernel_rfl) (by kernel_rfl) (by kernel_rfl) (fun _ _ _ h=>h) (Or.inl ⟨by rfl,fun W hS=>by have h:W.cell? ⟨ga,1,none⟩ = some (.int .i64 da):=(hS.obj HOA.out HNA.out).cell 1;clear hS;go_simp;try with_reducible rfl⟩) hHeld ?_
       try simp only [qP,qN,qS,qZ,qC]
       refine wpAnyH_take (i:=8) (oi:=⟨some 145,_,_,_,_,_⟩) (v:=_) rfl (by kernel_rfl) (by kernel_rfl) (by kernel_rfl) (fun _ _ _ h=>h) (Or.inl ⟨by rfl,fun W hS=>by clear hS;go_simp;try with_reducible rfl⟩) hHeld ?_
       try simp only [qP,qN,qS,qZ,qC]
       refine wpAnyH_take (i:=9) (oi:=⟨some 146,_,_,_,_,_⟩) (v:=_) rfl (by kernel_rfl) (by kernel_rfl) (by kernel_rfl) (fun _ _ _ h=>h) (Or.inl ⟨by rfl,fun W hS=>by have h:W.cell? ⟨gd,3,none⟩ = some (.int .i64 nn):=(hS.obj HOD.out HNO.out).cell 3;clear hS;go_simp;try with_reducible rfl⟩) hHeld ?_
       try simp only [qP,qN,qS,qZ,qC]
       refine wpAnyH_take (i:=10) (oi:=⟨some 147,_,_,_,_,_⟩) (v:=_) rfl (by kernel_rfl) (by kernel_rfl) (by kernel_rfl) (fun _ _ _ h=>h) (Or.inl ⟨by rfl,fun W hS=>by clear hS;go_simp;try with_reducible rfl⟩) hHeld ?_
       try simp only [qP,qN,qS,qZ,qC]
       refine wpAnyH_ready (rs:=[3,11]) (by kernel_rfl) (by simp) ?_
       refine (AllReadyH.cons (o:=⟨some 140,_,_,_,_,_⟩) rfl (fun K hK=>?_) (AllReadyH.cons (o:=⟨some 148,_,_,_,_,_⟩) rfl (fun K hK=>?_) AllReadyH.nil))
       go_simp
       first | refine zBr (fun Wl HXR=>?_) | refine zBe (fun Wl HXR=>?_)
       try replace HC:=hid (HC.out.below HXR.out.1)
       try replace HPP:=hid (HPP.out.below HXR.out.1 HXR.out.1.size)
       replace HW:=hid ((bwt HW.out).trans (HXR.out.1.mono (bwt HW.out).size))
       have HBo:=hid HXR.out.2
       obtain ⟨gB,hg9⟩:=zCx HXR
       clear HXR
       simp only [hg9] at HBo ⊢
       clear hg9
       refine hK.out _ _ (kwt HW.out) (fun hHeld=>?_)
       clear hK K
       try simp only [qP,qN,qS,qZ,qC]
       refine wpAnyH_ready (rs:=[11]) (by kernel_rfl) (by simp) ?_
       refine (AllReadyH.cons (o:=⟨some 148,_,_,_,_,_⟩) rfl (fun K hK=>?_) AllReadyH.nil)
       go_simp
       first | refine zBr (fun Wl HXR=>?_) | refine zBe (fun Wl HXR=>?_)
       try replace HBo:=hid (HBo.out.below HXR.out.1)
       try replace HPP:=hid (HPP.out.below HXR.out.1 HXR.out.1.size)
       replace HW:=hid ((bwt HW.out).trans (HXR.out.1.mono (bwt HW.out).size))
       have HC:=hid HXR.out.2
       obtain ⟨gC,hg9⟩:=zCx HXR
       clear HXR
       simp only [hg9] at HC ⊢
       clear hg9
       refine hK.out _ _ (kwt HW.out) (fun hHeld=>?_)
       clear hK K
       try simp only [qP,qN,qS,qZ,qC]
       refine wpAnyH_ready (rs:=[12]) (by kernel_rfl) (by simp) ?_
       refine (AllReadyH.cons (o:=⟨some 149,_,_,_,_,_⟩) rfl (fun K hK=>?_) AllReadyH.nil)
       go_simp
       refine Calls.mono (HAT2.out _ _ HRG.out.1 HRG.out.2 HC.out (bwt HW.out)) ?_
       rintro e Wl ⟨vq,rfl,hrq,hbq⟩
       obtain ⟨Aq,cq,rfl⟩:=hrq.form
       have HPP:=hid hrq
       try replace HBo:=hid (HBo.out.below hbq)
       try replace HC:=hid (HC.out.below hbq)
       replace HW:=hid ((bwt HW.out).trans (hbq.mono (bwt HW.out).size))
       clear hrq hbq
       refine hK.out _ _ (kwt HW.out) (fun hHeld=>?_)
       clear hK K
       try simp only [qP,qN,qS,qZ,qC]
       clear HC
       revert hHeld
       revert HW
       revert HPP
       revert HBo
       revert cq
       revert Aq
       revert Wl
       revert gB
       revert gC
       exact KEY
       go_simp
       first | refine zBr (fun Wl HXR=>?_) | refine zBe (fun Wl HXR=>?_)
       try replace HBo:=hid (HBo.out.below HXR.out.1)
       try replace HPP:=hid (HPP.out.below HXR.out.1 HXR.out.1.size)
       replace HW:=hid ((bwt HW.out).trans (HXR.out.1.mono (bwt HW.out).size))
       have HC:=hid HXR.out.2
       obtain ⟨gC,hg9⟩:=zCx HXR
       clear HXR
       simp only [hg9] at HC ⊢
       clear hg9
       refine hK.out _ _ (kwt HW.out) (fun hHeld=>?_)
       clear hK K
       try simp only [qP,qN,qS,qZ,qC]
       refine wpAnyH_ready (rs:=[3,12]) (by kernel_rfl) (by simp) ?_
       refine (AllReadyH.cons (o:=⟨some 140,_,_,_,_,_⟩) rfl (fun K hK=>?_) (AllReadyH.cons (o:=⟨some 149,_,_,_,_,_⟩) rfl (fun K hK=>?_) AllReadyH.nil))
       go_simp
       first | refine zBr (fun Wl HXR=>?_) | refine zBe (fun Wl HXR=>?_)
       try replace HC:=hid (HC.out.below HXR.out.1)
       try replace HPP:=hid (HPP.out.below HXR.out.1 HXR.out.1.size)
       replace HW:=hid ((bwt HW.out).trans (HXR.out.1.mono (bwt HW.out).size))
       have HBo:=hid HXR.out.2
       obtain ⟨gB,hg9⟩:=zCx HXR
       clear HXR
       simp only [hg9] at HBo ⊢
       clear hg9
       refine hK.out _ _ (kwt HW.out) (fun hHeld=>?_)
       clear hK K
       try simp only [qP,qN,qS,qZ,qC]
       refine wpAnyH_ready (rs:=[12]) (by kernel_rfl) (by simp) ?_
       refine (AllReadyH.cons (o:=⟨some 149,_,_,_,_,_⟩) rfl (fun K hK=>?_) AllReadyH.nil)
       go_simp
       refine Calls.mono (HAT2.out _ _ HRG.out.1 HRG.out.2 HC.out (bwt HW.out)) ?_
       rintro e Wl ⟨vq,rfl,hrq,hbq⟩
       obtain ⟨Aq,cq,rfl⟩:=hrq.form
       have HPP:=hid hrq
       try replace HBo:=hid (HBo.out.below hbq)
       try replace HC:=hid (HC.out.below hbq)
       replace HW:=hid ((bwt HW.out).trans (hbq.mono (bwt HW.out).size))
       clear hrq hbq
       refine hK.out _ _ (kwt HW.out) (fun hHeld=>?_)
       clear hK K
       try simp only [qP,qN,qS,qZ,qC]
       clear HC
       revert hHeld
       revert HW
       revert HPP
       revert HBo
       revert cq
       revert Aq
       revert Wl
       revert gB
       revert gC
       exact KEY
       go_simp
       refine Calls.mono (HAT2.out _ _ HRG.out.1 HRG.out.2 HC.out (bwt HW.out)) ?_
       rintro e Wl ⟨vq,rfl,hrq,hbq⟩
       obtain ⟨Aq,cq,rfl⟩:=hrq.form
       have HPP:=hid hrq
       try replace HBo:=hid (HBo.out.below hbq)
       try replace HC:=hid (HC.out.below hbq)
       replace HW:=hid ((bwt HW.out).trans (hbq.mono (bwt HW.out).size))
       clear hrq hbq
       refine hK.out _ _ (kwt HW.out) (fun hHeld=>?_)
       clear hK K
       try simp only [qP,qN,qS,qZ,qC]
       refine wpAnyH_ready (rs:=[3]) (by kernel_rfl) (by simp) ?_
       refine (AllReadyH.cons (o:=⟨some 140,_,_,_,_,_⟩) rfl (fun K hK=>?_) AllReadyH.nil)
       go_simp
       first | refine zBr (fun Wl HXR=>?_) | refine zBe (fun Wl HXR=>?_)
       try replace HC:=hid (HC.out.below HXR.out.1)
       try replace HPP:=hid (HPP.out.below HXR.out.1 HXR.out.1.size)
       replace HW:=hid ((bwt HW.out).trans (HXR.out.1.mono (bwt HW.out).size))
       have HBo:=hid HXR.out.2
       obtain ⟨gB,hg9⟩:=zCx HXR
       clear HXR
       simp only [hg9] at HBo ⊢
       clear hg9
       refine hK.out _ _ (kwt HW.out) (fun hHeld=>?_)
       clear hK K
       try simp only [qP,qN,qS,qZ,qC]
       clear HC
       revert hHeld
       revert HW
       revert HPP
       revert HBo
       revert cq
       revert Aq
       revert Wl
       revert gB
       revert gC
       exact KEY
      case k =>
       intro gC gB Wl Aq cq HBo HPP HW hHeld
       refine wpAnyH_ready (rs:=[13]) (by kernel_rfl) (by simp) ?_
       refine (AllReadyH.cons (o:=⟨some 150,_,_,_,_,_⟩) rfl (fun K hK=>?_) AllReadyH.nil)
       go_simp
       refine Calls.mono (HDN.out _ _ _ _ _ HR.out HBo.out (bwt HW.out) HPP.out) ?_
       rintro e wk hrec
       have HREC:=hid hrec
       obtain ⟨Ao9,co9,Ap9,cp9,Am9,cm9,Aap9,cap9,Aam9,cam9,rfl,_,_,_,_,_,hbw⟩:=hrec
       have HW:=hid ((bwt HW.out).trans (hbw.mono (bwt HW.out).size))
       have HGW:=hid (HG.out.below HW.out)
       clear hbw
       refine hK.out _ _ (kwt HW.out) (fun hHeld=>?_)
       clear hK K
       try simp only [qP,qN,qS,qZ,qC]
       refine wpAnyH_take (i:=14) (oi:=⟨some 151,_,_,_,_,_⟩) (v:=_) rfl (by kernel_rfl) (by kernel_rfl) (by kernel_rfl) (fun _ _ _ h=>h) (Or.inl ⟨by rfl,fun W hS=>by clear hS;go_simp;try with_reducible rfl⟩) hHeld ?_
       try simp only [qP,qN,qS,qZ,qC]
       refine wpAnyH_take (i:=15) (oi:=⟨some 152,_,_,_,_,_⟩) (v:=_) rfl (by kernel_rfl) (by kernel_rfl) (by kernel_rfl) (fun _ _ _ h=>h) (Or.inl ⟨by rfl,fun W hS=>by clear hS;go_simp;try with_reducible rfl⟩) hHeld ?_
       try simp only [qP,qN,qS,qZ,qC]
       refine wpAnyH_ready (rs:=[16]) (by kernel_rfl) (by simp) ?_
       refine (AllReadyH.cons (o:=⟨none,_,_,_,_,_⟩) rfl (fun K hK=>?_) AllReadyH.nil)
       rw [if_pos (by rfl)]
       refine wp_store_row 36 (.tmp 6) (.tmp 151) rfl (w.heap.size + 1 + 1) #[.slice Ao9 RES.1.ops.length co9,.slice Ap9 RES.1.bp.length cp9,.slice Am9 RES.1.bm.length cm9,.slice Aap9 RES.1.ap.length cap9,.slice Aam9 RES.1.am.length cam9] rfl rfl 36 _ HGW.out (by kernel_rfl) (by simp) (by simp [Value.oneCell']) ?_
       refine zCq HGW.out (fun X9 HX9=>?_)
       refine hK.out _ _ ((kwt HW.out).trans' HX9.out.1) (fun hHeld=>?_)
       clear hK K
       try simp only [qP,qN,qS,qZ,qC]
       refine wpAnyH_take (i:=17) (oi:=⟨some 7,_,_,_,_,_⟩) (v:=_) rfl (by kernel_rfl) (by kernel_rfl) (by kernel_rfl) (fun _ _ _ h=>h) (Or.inl ⟨by rfl,fun W hS=>by clear hS;go_simp;try with_reducible rfl⟩) hHeld ?_
       try simp only [qP,qN,qS,qZ,qC]
       refine wpAnyH_done (by kernel_rfl) ?_ _
       refine NoPanic.normal ?_
       first | refine (‹∀ (a:Act) (w_1:World),Code.wp Tryz.prog Code.ret (Exit.then K9 (bodyPost Tryz.prog Tryz.f93 (RecB w RES))) a w_1→_›) _ _ (wp_ret ?_) | refine (‹∀ (a:Act) (w_1:World),Code.wp Tryz.prog Code.ret (Exit.then _ (Exit.then K9 (bodyPost Tryz.prog Tryz.f93 (RecB w RES)))) a w_1→_›) _ _ (wp_ret ?_)
       refine bodyPost_ret (v:=.tuple #[.agg #[.slice Ao9 RES.1.ops.length co9,.slice Ap9 RES.1.bp.length cp9,.slice Am9 RES.1.bm.length cm9,.slice Aap9 RES.1.ap.length cap9,.slice Aam9 RES.1.am.length cam9],.int .i64 RES.2]) (zAj Tryz.results93 _ _ _ (w.heap.size + 1 + 1) 36 _ (0,0) _ rfl HX9.out.2.1 rfl Tryz.underlying36 (by kernel_rfl) _ rfl) rfl ?_
       exact RecB.put (arr:=#[]) HREC.out HGW.out HX9.out.1 HX9.out.2.2 (HWB.out.trans (HW.out.mono HWB.out.size)) (by omega)
     case true =>
      simp only [if_true] at HR
      have HRG:Hid (0≤da∧da≤1000000):=by have:=HAF2.out;have:=HNN.out;show _∧_;omega
      obtain ⟨pos,hpos⟩:∃ pos,dr ++ [da] = pos:=⟨_,rfl⟩
      have hat:=HAT.out da
      rw [hpos] at hat HR
      have HAT2:=hid hat
      clear hat hpos HAT
      go_upto_region 18 with fail
      apply zH4
      case' h =>
       intro KEY
       refine wp_region_noPanic ?_
       refine wp_region_held_drew (S:=fun w'=>Kept (fun k=>k = w.heap.size + 1 + 1) V9 w') (by kernel_rfl) (kwt HW.out) (fun hHeld=>?_)
       refine wpAnyH_take (i:=0) (oi:=⟨some 124,_,_,_,_,_⟩) (v:=_) rfl (by kernel_rfl) (by kernel_rfl) (by kernel_rfl) (fun _ _ _ h=>h) (zB6 24 (.tmp 3) rfl (by rfl) _ rfl (fun w hS=>hS.obj HO1.out HN1.out) Tryz.underlying24 (by kernel_rfl)) hHeld ?_
       try simp only [qP,qN,qS,qZ,qC]
       refine wpAnyH_take (i:=1) (oi:=⟨some 125,_,_,_,_,_⟩) (v:=_) rfl (by kernel_rfl) (by kernel_rfl) (by kernel_rfl) (fun _ _ _ h=>h) (zB6 33 (.tmp 4) rfl (by rfl) _ rfl (fun w hS=>hS.obj HO2.out HN2.out) Tryz.underlying33 (by kernel_rfl)) hHeld ?_
       try simp only [qP,qN,qS,qZ,qC]
       refine wpAnyH_take (i:=2) (oi:=⟨some 126,_,_,_,_,_⟩) (v:=_) rfl (by kernel_rfl) (by kernel_rfl) (by kernel_rfl) (fun _ _ _ h=>h) (zB6 67 (.tmp 18) rfl (by rfl) _ rfl (fun w hS=>hS.obj HOD.out HNO.out) Tryz.underlying67 (by kernel_rfl)) hHeld ?_
       try simp only [qP,qN,qS,qZ,qC]
       refine wpAnyH_take (i:=4) (oi:=⟨some 128,_,_,_,_,_⟩) (v:=_) rfl (by kernel_rfl) (by kernel_rfl) (by kernel_rfl) (fun _ _ _ h=>h) (Or.inl ⟨by rfl,fun W hS=>by clear hS;go_simp;try with_reducible rfl⟩) hHeld ?_
       try simp only [qP,qN,qS,qZ,qC]
       refine wpAnyH_take (i:=5) (oi:=⟨some 129,_,_,_,_,_⟩) (v:=_) rfl (by kernel_rfl) (by kernel_rfl) (by kernel_rfl) (fun _ _ _ h=>h) (Or.inl ⟨by rfl,fun W hS=>by have h:W.cell? ⟨ga,0,none⟩ = some (.slice Ar dr.length cr):=(hS.obj HOA.out HNA.out).cell 0;clear hS;go_simp;try with_reducible rfl⟩) hHeld ?_
       try simp only [qP,qN,qS,qZ,qC]
       refine wpAnyH_take (i:=6) (oi:=⟨some 130,_,_,_,_,_⟩) (v:=_) rfl (by kernel_rfl) (by kernel_rfl) (by kernel_rfl) (fun _ _ _ h=>h) (Or.inl ⟨by rfl,fun W hS=>by clear hS;go_simp;try with_reducible rfl⟩) hHeld ?_
       try simp only [qP,qN,qS,qZ,qC]
       refine wpAnyH_take (i:=7) (oi:=⟨some 131,_,_,_,_,_⟩) (v:=_) rfl (by kernel_rfl) (by kernel_rfl) (by kernel_rfl) (fun _ _ _ h=>h) (Or.inl ⟨by rfl,fun W hS=>by have h:W.cell? ⟨ga,1,none⟩ = some (.int .i64 da):=(hS.obj HOA.out HNA.out).cell 1;clear hS;go_simp;try with_reducible rfl⟩) hHeld ?_
       try simp only [qP,qN,qS,qZ,qC]
       refine wpAnyH_ready (rs:=[3,8]) (by kernel_rfl) (by simp) ?_
       refine (AllReadyH.cons (o:=⟨some 127,_,_,_,_,_⟩) rfl (fun K hK=>?_) (AllReadyH.cons (o:=⟨some 132,_,_,_,_,_⟩) rfl (fun K hK=>?_) AllReadyH.nil))
       go_simp
       first | refine zBr (fun Wl HXR=>?_) | refine zBe (fun Wl HXR=>?_)
       try replace HC:=hid (HC.out.below HXR.out.1)
       try replace HPP:=hid (HPP.out.below HXR.out.1 HXR.out.1.size)
       replace HW:=hid ((bwt HW.out).trans (HXR.out.1.mono (bwt HW.out).size))
       have HBo:=hid HXR.out.2
       obtain ⟨gB,hg9⟩:=zCx HXR
       clear HXR
       simp only [hg9] at HBo ⊢
       clear hg9
       refine hK.out _ _ (kwt HW.out) (fun hHeld=>?_)
       clear hK K
       try simp only [qP,qN,qS,qZ,qC]
       refine wpAnyH_ready (rs:=[8]) (by kernel_rfl) (by simp) ?_
       refine (AllReadyH.cons (o:=⟨some 132,_,_,_,_,_⟩) rfl (fun K hK=>?_) AllReadyH.nil)
       go_simp
       first | refine zBr (fun Wl HXR=>?_) | refine zBe (fun Wl HXR=>?_)
       try replace HBo:=hid (HBo.out.below HXR.out.1)
       try replace HPP:=hid (HPP.out.below HXR.out.1 HXR.out.1.size)
       replace HW:=hid ((bwt HW.out).trans (HXR.out.1.mono (bwt HW.out).size))
       have HC:=hid HXR.out.2
       obtain ⟨gC,hg9⟩:=zCx HXR
       clear HXR
       simp only [hg9] at HC ⊢
       clear hg9
       refine hK.out _ _ (kwt HW.out) (fun hHeld=>?_)
       clear hK K
       try simp only [qP,qN,qS,qZ,qC]
       refine wpAnyH_ready (rs:=[9]) (by kernel_rfl) (by simp) ?_
       refine (AllReadyH.cons (o:=⟨some 133,_,_,_,_,_⟩) rfl (fun K hK=>?_) AllReadyH.nil)
       go_simp
       refine Calls.mono (HAT2.out _ _ HRG.out.1 HRG.out.2 HC.out (bwt HW.out)) ?_
       rintro e Wl ⟨vq,rfl,hrq,hbq⟩
       obtain ⟨Aq,cq,rfl⟩:=hrq.form
       have HPP:=hid hrq
       try replace HBo:=hid (HBo.out.below hbq)
       try replace HC:=hid (HC.out.below hbq)
       replace HW:=hid ((bwt HW.out).trans (hbq.mono (bwt HW.out).size))
       clear hrq hbq
       refine hK.out _ _ (kwt HW.out) (fun hHeld=>?_)
       clear hK K
       try simp only [qP,qN,qS,qZ,qC]
       clear HC
       revert hHeld
       revert HW
       revert HPP
       revert HBo
       revert cq
       revert Aq
       revert Wl
       revert gB
       revert gC
       exact KEY
       go_simp
       first | refine zBr (fun Wl HXR=>?_) | refine zBe (fun Wl HXR=>?_)
       try replace HBo:=hid (HBo.out.below HXR.out.1)
       try replace HPP:=hid (HPP.out.below HXR.out.1 HXR.out.1.size)
       replace HW:=hid ((bwt HW.out).trans (HXR.out.1.mono (bwt HW.out).size))
       have HC:=hid HXR.out.2
       obtain ⟨gC,hg9⟩:=zCx HXR
       clear HXR
       simp only [hg9] at HC ⊢
       clear hg9
       refine hK.out _ _ (kwt HW.out) (fun hHeld=>?_)
       clear hK K
       try simp only [qP,qN,qS,qZ,qC]
       refine wpAnyH_ready (rs:=[3,9]) (by kernel_rfl) (by simp) ?_
       refine (AllReadyH.cons (o:=⟨some 127,_,_,_,_,_⟩) rfl (fun K hK=>?_) (AllReadyH.cons (o:=⟨some 133,_,_,_,_,_⟩) rfl (fun K hK=>?_) AllReadyH.nil))
       go_simp
       first | refine zBr (fun Wl HXR=>?_) | refine zBe (fun Wl HXR=>?_)
       try replace HC:=hid (HC.out.below HXR.out.1)
       try replace HPP:=hid (HPP.out.below HXR.out.1 HXR.out.1.size)
       replace HW:=hid ((bwt HW.out).trans (HXR.out.1.mono (bwt HW.out).size))
       have HBo:=hid HXR.out.2
       obtain ⟨gB,hg9⟩:=zCx HXR
       clear HXR
       simp only [hg9] at HBo ⊢
       clear hg9
       refine hK.out _ _ (kwt HW.out) (fun hHeld=>?_)
       clear hK K
       try simp only [qP,qN,qS,qZ,qC]
       refine wpAnyH_ready (rs:=[9]) (by kernel_rfl) (by simp) ?_
       refine (AllReadyH.cons (o:=⟨some 133,_,_,_,_,_⟩) rfl (fun K hK=>?_) AllReadyH.nil)
       go_simp
       refine Calls.mono (HAT2.out _ _ HRG.out.1 HRG.out.2 HC.out (bwt HW.out)) ?_
       rintro e Wl ⟨vq,rfl,hrq,hbq⟩
       obtain ⟨Aq,cq,rfl⟩:=hrq.form
       have HPP:=hid hrq
       try replace HBo:=hid (HBo.out.below hbq)
       try replace HC:=hid (HC.out.below hbq)
       replace HW:=hid ((bwt HW.out).trans (hbq.mono (bwt HW.out).size))
       clear hrq hbq
       refine hK.out _ _ (kwt HW.out) (fun hHeld=>?_)
       clear hK K
       try simp only [qP,qN,qS,qZ,qC]
       clear HC
       revert hHeld
       revert HW
       revert HPP
       revert HBo
       revert cq
       revert Aq
       revert Wl
       revert gB
       revert gC
       exact KEY
       go_simp
       refine Calls.mono (HAT2.out _ _ HRG.out.1 HRG.out.2 HC.out (bwt HW.out)) ?_
       rintro e Wl ⟨vq,rfl,hrq,hbq⟩
       obtain ⟨Aq,cq,rfl⟩:=hrq.form
       have HPP:=hid hrq
       try replace HBo:=hid (HBo.out.below hbq)
       try replace HC:=hid (HC.out.below hbq)
       replace HW:=hid ((bwt HW.out).trans (hbq.mono (bwt HW.out).size))
       clear hrq hbq
       refine hK.out _ _ (kwt HW.out) (fun hHeld=>?_)
       clear hK K
       try simp only [qP,qN,qS,qZ,qC]
       refine wpAnyH_ready (rs:=[3]) (by kernel_rfl) (by simp) ?_
       refine (AllReadyH.cons (o:=⟨some 127,_,_,_,_,_⟩) rfl (fun K hK=>?_) AllReadyH.nil)
       go_simp
       first | refine zBr (fun Wl HXR=>?_) | refine zBe (fun Wl HXR=>?_)
       try replace HC:=hid (HC.out.below HXR.out.1)
       try replace HPP:=hid (HPP.out.below HXR.out.1 HXR.out.1.size)
       replace HW:=hid ((bwt HW.out).trans (HXR.out.1.mono (bwt HW.out).size))
       have HBo:=hid HXR.out.2
       obtain ⟨gB,hg9⟩:=zCx HXR
       clear HXR
       simp only [hg9] at HBo ⊢
       clear hg9
       refine hK.out _ _ (kwt HW.out) (fun hHeld=>?_)
       clear hK K
       try simp only [qP,qN,qS,qZ,qC]
       clear HC
       revert hHeld
       revert HW
       revert HPP
       revert HBo
       revert cq
       revert Aq
       revert Wl
       revert gB
       revert gC
       exact KEY
      case k =>
       intro gC gB Wl Aq cq HBo HPP HW hHeld
       refine wpAnyH_ready (rs:=[10]) (by kernel_rfl) (by simp) ?_
       refine (AllReadyH.cons (o:=⟨some 134,_,_,_,_,_⟩) rfl (fun K hK=>?_) AllReadyH.nil)
       go_simp
       refine Calls.mono (HDN.out _ _ _ _ _ HR.out HBo.out (bwt HW.out) HPP.out) ?_
       rintro e wk hrec
       have HREC:=hid hrec
       obtain ⟨Ao9,co9,Ap9,cp9,Am9,cm9,Aap9,cap9,Aam9,cam9,rfl,_,_,_,_,_,hbw⟩:=hrec
       have HW:=hid ((bwt HW.out).trans (hbw.mono (bwt HW.out).size))
       have HGW:=hid (HG.out.below HW.out)
       clear hbw
       refine hK.out _ _ (kwt HW.out) (fun hHeld=>?_)
       clear hK K
       try simp only [qP,qN,qS,qZ,qC]
       refine wpAnyH_take (i:=11) (oi:=⟨some 135,_,_,_,_,_⟩) (v:=_) rfl (by kernel_rfl) (by kernel_rfl) (by kernel_rfl) (fun _ _ _ h=>h) (Or.inl ⟨by rfl,fun W hS=>by clear hS;go_simp;try with_reducible rfl⟩) hHeld ?_
       try simp only [qP,qN,qS,qZ,qC]
       refine wpAnyH_take (i:=12) (oi:=⟨some 136,_,_,_,_,_⟩) (v:=_) rfl (by kernel_rfl) (by kernel_rfl) (by kernel_rfl) (fun _ _ _ h=>h) (Or.inl ⟨by rfl,fun W hS=>by clear hS;go_simp;try with_reducible rfl⟩) hHeld ?_
       try simp only [qP,qN,qS,qZ,qC]
       refine wpAnyH_ready (rs:=[13]) (by kernel_rfl) (by simp) ?_
       refine (AllReadyH.cons (o:=⟨none,_,_,_,_,_⟩) rfl (fun K hK=>?_) AllReadyH.nil)
       rw [if_pos (by rfl)]
       refine wp_store_row 36 (.tmp 6) (.tmp 135) rfl (w.heap.size + 1 + 1) #[.slice Ao9 RES.1.ops.length co9,.slice Ap9 RES.1.bp.length cp9,.slice Am9 RES.1.bm.length cm9,.slice Aap9 RES.1.ap.length cap9,.slice Aam9 RES.1.am.length cam9] rfl rfl 36 _ HGW.out (by kernel_rfl) (by simp) (by simp [Value.oneCell']) ?_
       refine zCq HGW.out (fun X9 HX9=>?_)
       refine hK.out _ _ ((kwt HW.out).trans' HX9.out.1) (fun hHeld=>?_)
       clear hK K
       try simp only [qP,qN,qS,qZ,qC]
       refine wpAnyH_take (i:=14) (oi:=⟨some 7,_,_,_,_,_⟩) (v:=_) rfl (by kernel_rfl) (by kernel_rfl) (by kernel_rfl) (fun _ _ _ h=>h) (Or.inl ⟨by rfl,fun W hS=>by clear hS;go_simp;try with_reducible rfl⟩) hHeld ?_
       try simp only [qP,qN,qS,qZ,qC]
       refine wpAnyH_done (by kernel_rfl) ?_ _
       refine NoPanic.normal ?_
       first | refine (‹∀ (a:Act) (w_1:World),Code.wp Tryz.prog Code.ret (Exit.then K9 (bodyPost Tryz.prog Tryz.f93 (RecB w RES))) a w_1→_›) _ _ (wp_ret ?_) | refine (‹∀ (a:Act) (w_1:World),Code.wp Tryz.prog Code.ret (Exit.then _ (Exit.then K9 (bodyPost Tryz.prog Tryz.f93 (RecB w RES)))) a w_1→_›) _ _ (wp_ret ?_)
       refine bodyPost_ret (v:=.tuple #[.agg #[.slice Ao9 RES.1.ops.length co9,.slice Ap9 RES.1.bp.length cp9,.slice Am9 RES.1.bm.length cm9,.slice Aap9 RES.1.ap.length cap9,.slice Aam9 RES.1.am.length cam9],.int .i64 RES.2]) (zAj Tryz.results93 _ _ _ (w.heap.size + 1 + 1) 36 _ (0,0) _ rfl HX9.out.2.1 rfl Tryz.underlying36 (by kernel_rfl) _ rfl) rfl ?_
       exact RecB.put (arr:=#[]) HREC.out HGW.out HX9.out.1 HX9.out.2.2 (HWB.out.trans (HW.out.mono HWB.out.size)) (by omega)
 case rest =>
 obtain ⟨hbc,hres⟩:=hcut
 have HBR:=hid hbc
 have HRS:=hid hres
 clear hbc hres y3
 have HO1:=hid (HO1.out.below HBR.out)
 have HO2:=hid (HO2.out.below HBR.out)
 have HG:=hid (HG.out.below HBR.out)
 have HWR:=hid (HWB3.out.trans (HBR.out.mono HWB3.out.size))
 obtain ⟨m0,m1,m2,m3,n0,n1⟩:=CELL.out _ HO1.out HO2.out
 have HRS:=hid (HRS.out.trans HSTE.out)
 generalize zDy t p _ = SP at HSD HRS
 obtain ⟨sp,ser⟩:=SP
 simp only at HRS
 clear HSTE
 go_wp2_with fail
 refine (HSD.out _ HWR.out).mono ?_
 rintro e w6 ⟨hb6,v6,rfl,hr6⟩
 simp only at hr6 ⊢
 obtain ⟨A6,c6,rfl⟩:=hr6.form
 have HG:=hid (HG.out.below hb6)
 have HO1:=hid (HO1.out.below hb6)
 have HO2:=hid (HO2.out.below hb6)
 have HWR:=hid (HWR.out.trans (hb6.mono HWR.out.size))
 have HBR:=hid (HBR.out.trans (hb6.mono HBR.out.size))
 have HP6:Hid (zAh w6 (Lt w6.heap.size) sp (.slice A6 sp.length c6)):=hid (hr6.keep (fun _ _=>rfl) (fun k hk=>hk.2))
 clear hb6 hr6 m0 m1 m2 m3 n0 n1 HSD
 by_cases hse:ser = 0
 rotate_left
 ·have hse':(ser != 0) = true:=by simp [hse]
  have HR:Hid (RES = (recZ,ser)):=HRS.out.trans (if_pos hse)
  clear HRS hse
  go_upto_region 22 with fail
  repeat (first | (refine wpList_store_row rfl 36 (.tmp 6) (.tmp 163) rfl (w.heap.size + 1 + 1) _ rfl rfl 36 _ HG.out (by kernel_rfl) (by simp) (by simp [Value.oneCell']) ?_) | go_values | go_skip | go_guarded | go_step | go_upon)
  refine bodyPost_ret (v:=.tuple #[.agg #[.slice none 0 0,.slice none 0 0,.slice none 0 0,.slice none 0 0,.slice none 0 0],.int .i64 ser]) (zAj Tryz.results93 _ _ _ (w.heap.size + 1 + 1) 36 _ (0,0) _ rfl (HG.out.row _) rfl Tryz.underlying36 (by kernel_rfl) _ rfl) rfl ?_
  rw [HR.out]
  exact zJ8 ser (zAk HWR.out (by omega) _)
 subst hse
 have HR:Hid (RES = zD9 t p m [] sp []):=HRS.out.trans (if_neg (by simp))
 obtain ⟨m0,m1,m2,m3,n0,n1⟩:=CELL.out w6 HO1.out HO2.out
 clear HRS
 go_wp2_with fail
 refine Calls.mono (CDN2.out [] sp _ none 0 A6 c6 ⟨Nat.zero_le _,fun _ h=>absurd h (by simp)⟩ HR.out HBR.out (zAa.nil_ 0 (Nat.zero_le _) none) HP6.out) ?_
 rintro e wk hrec
 have HREC:=hid hrec
 obtain ⟨Ao9,co9,Ap9,cp9,Am9,cm9,Aap9,cap9,Aam9,cam9,rfl,_,_,_,_,_,hbw⟩:=hrec
 have HGW:=hid (HG.out.below hbw)
 have HW:=hid hbw
 clear hbw
 simp only []
 go_at_K
 repeat (first | (refine wpList_store_row rfl 36 (.tmp 6) (.tmp 169) rfl (w.heap.size + 1 + 1) #[.slice Ao9 RES.1.ops.length co9,.slice Ap9 RES.1.bp.length cp9,.slice Am9 RES.1.bm.length cm9,.slice Aap9 RES.1.ap.length cap9,.slice Aam9 RES.1.am.length cam9] rfl rfl 36 _ HGW.out (by kernel_rfl) (by simp) (by simp [Value.oneCell']) ?_) | go_values | go_skip | go_guarded | go_step | go_upon)
 refine bodyPost_ret (v:=.tuple #[.agg #[.slice Ao9 RES.1.ops.length co9,.slice Ap9 RES.1.bp.length cp9,.slice Am9 RES.1.bm.length cm9,.slice Aap9 RES.1.ap.length cap9,.slice Aam9 RES.1.am.length cam9],.int .i64 RES.2]) (zAj Tryz.results93 _ _ _ (w.heap.size + 1 + 1) 36 _ (0,0) _ rfl (HGW.out.row _) rfl Tryz.underlying36 (by kernel_rfl) _ rfl) rfl ?_
 exact RecB.put (arr:=#[]) HREC.out HGW.out (Kept.setRow _ _ _) (size_setRow _ _ _) (HWR.out.trans (HW.out.mono HWR.out.size)) (by omega)
end Go.Proofs.YtbjcioknfjofkaaGreat
