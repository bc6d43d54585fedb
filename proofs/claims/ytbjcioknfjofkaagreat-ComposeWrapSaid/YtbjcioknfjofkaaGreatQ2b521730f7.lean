/- Texts put together. -/
import Derived.Test.YtbjcioknfjofkaaGreatQ9fbf350ee7
set_option linter.unusedVariables false
set_option linter.unusedSimpArgs false
set_option maxRecDepth 100000
namespace Go.Proofs.YtbjcioknfjofkaaGreat
open Go.RowKit
set_option maxHeartbeats 16000000 in
theorem r14Wrap_any (t:Tree) (p m:List Int) (item:Tree) (slot:Int) (A Ap Am Ai:Option Addr) (cap cp cm ci:Nat) (w:World) (hv:SliceR treeE w (Lt w.heap.size) t.kids (.slice A t.kids.length cap)) (hok:NodeOk t) (hct:countS t≤900000) (hp:IntsR w (Lt w.heap.size) p (.slice Ap p.length cp)) (hm:IntsR w (Lt w.heap.size) m (.slice Am m.length cm)) (hpl:p.length≤90000) (hml:m.length≤90000) (hi:SliceR treeE w (Lt w.heap.size) item.kids (.slice Ai item.kids.length ci)) (hio:NodeOk item) (hic:countS item≤100000) (hs64:In64 slot) :
  Calls Tryz.prog 94 #[.agg #[.int .i64 t.kind,.string t.text,.int .i64 t.cols,.slice A t.kids.length cap],.agg #[.slice Ap p.length cp,.slice Am m.length cm],.agg #[.int .i64 item.kind,.string item.text,.int .i64 item.cols,.slice Ai item.kids.length ci],.int .i64 slot] w (RecB w (cwrapS t p m item slot)):=by
 obtain ⟨W0,hW0⟩:∃ W0,(((w.alloc (.cells #[.int .i64 t.kind,.string t.text,.int .i64 t.cols,.slice A t.kids.length cap] 24)).alloc (.cells #[.slice Ap p.length cp,.slice Am m.length cm] 33)).alloc (.cells #[.int .i64 item.kind,.string item.text,.int .i64 item.cols,.slice Ai item.kids.length ci] 24)).alloc (.cells #[.slice none 0 0,.slice none 0 0,.slice none 0 0,.slice none 0 0,.slice none 0 0] 36) = W0:=⟨_,rfl⟩
 have hb0:Below w.heap.size w W0:=by rw [← hW0];exact blAlloc (blAlloc (blAlloc (blA _ _) _) _) _
 have ho1:HasObj W0 w.heap.size (.cells #[.int .i64 t.kind,.string t.text,.int .i64 t.cols,.slice A t.kids.length cap] 24):=by rw [← hW0];exact (((HasObj.at0 _ _).al _).al _).al _
 have ho2:HasObj W0 (w.heap.size + 1) (.cells #[.slice Ap p.length cp,.slice Am m.length cm] 33):=by rw [← hW0];exact ((HasObj.at1 _ _ _).al _).al _
 have ho4:HasObj W0 (w.heap.size + 1 + 1) (.cells #[.int .i64 item.kind,.string item.text,.int .i64 item.cols,.slice Ai item.kids.length ci] 24):=by rw [← hW0];exact (HasObj.at2 _ _ _ _).al _
 have HO1:=hid ho1
 have HO2:=hid ho2
 have HO4:=hid ho4
 have HO3:Hid (HasObj W0 (w.heap.size + 1 + 1 + 1) (.cells #[.slice none 0 0,.slice none 0 0,.slice none 0 0,.slice none 0 0,.slice none 0 0] 36)):=by show HasObj _ _ _;rw [← hW0];exact HasObj.new _ _ _ (by simp)
 have HB0:=hid hb0
 have HLT:Hid (w.heap.size + 1 + 1 + 1 < W0.heap.size):=HO3.out.lt
 have CELL:Hid (∀ W,HasObj W w.heap.size (.cells #[.int .i64 t.kind,.string t.text,.int .i64 t.cols,.slice A t.kids.length cap] 24)→HasObj W (w.heap.size + 1) (.cells #[.slice Ap p.length cp,.slice Am m.length cm] 33)→W.cell? ⟨w.heap.size,0,none⟩ = some (.int .i64 t.kind)∧W.cell? ⟨w.heap.size,1,none⟩ = some (.string t.text)∧W.cell? ⟨w.heap.size,2,none⟩ = some (.int .i64 t.cols)∧W.cell? ⟨w.heap.size,3,none⟩ = some (.slice A t.kids.length cap)∧W.cell? ⟨w.heap.size + 1,0,none⟩ = some (.slice Ap p.length cp)∧W.cell? ⟨w.heap.size + 1,1,none⟩ = some (.slice Am m.length cm)):=fun W h1 h2=>⟨h1.cell 0,h1.cell 1,h1.cell 2,h1.cell 3,h2.cell 0,h2.cell 1⟩
 have CC:Hid (∀ W,Below w.heap.size w W→Calls Tryz.prog 136 #[.agg #[.int .i64 t.kind,.string t.text,.int .i64 t.cols,.slice A t.kids.length cap],.agg #[.slice Ap p.length cp,.slice Am m.length cm]] W (BetV W (ofS t p m))):=fun W hW=>r14check_any t p m A Ap Am cap cp cm W (hv.below hW hW.size) hok.2.2 hct (hp.below hW hW.size) (hm.below hW hW.size)
 have CV:Hid (∀ W,Below w.heap.size w W→Calls Tryz.prog 35 #[.agg #[.int .i64 t.kind,.string t.text,.int .i64 t.cols,.slice A t.kids.length cap]] W fun e w'=>e = .returned (.bool (validS t))∧Below W.heap.size W w'):=fun W hW=>valid_any t A cap W (hv.below hW hW.size) hok.2.2 (by omega)
 have HNI:Hid (∀ W gn,Below w.heap.size w W→HasObj W gn (.cells #[.int .i64 item.kind,.string item.text,.int .i64 item.cols,.slice Ai item.kids.length ci] 24)→SliceR treeE W (Lt W.heap.size) [item] (.slice (some ⟨gn,0,none⟩) 1 1)):=fun W gn hW ho=>row_obj (E:=treeE) ho (treeR_mk.2 ⟨_,rfl,hio.1,hio.2.1,hio.2.2,hi.below hW hW.size⟩) ho.lt
 have CF:Hid (∀ W gn,Below w.heap.size w W→HasObj W gn (.cells #[.int .i64 item.kind,.string item.text,.int .i64 item.cols,.slice Ai item.kids.length ci] 24)→Calls Tryz.prog 78 #[.agg #[.int .i64 3,.slice none 0 0,.int .i64 0,.int .i64 0,.slice (some ⟨gn,0,none⟩) 1 1,.int .i64 slot,.string ⟨#[]⟩,.string ⟨#[]⟩]] W (fun e w'=>e = .returned (.bool (formedS (wrapOp [] 0 0 [item] slot)))∧Below W.heap.size W w')):=fun W gn hW ho=>formed_any (wrapOp [] 0 0 [item] slot) 0 none (some ⟨gn,0,none⟩) 0 1 W (HNI.out W gn hW ho) (by show countS item + 0≤_;omega)
 have HE:=hid (wrap_cases t p m item slot)
 have HIN:=hid (And.intro hv (And.intro hok (And.intro hct (And.intro hp (And.intro hm (And.intro hpl hml))))))
 have HII:=hid hi
 have HS64:Hid (In64 slot):=hs64
 obtain ⟨RES,hRES⟩:∃ RES,cwrapS t p m item slot = RES:=⟨_,rfl⟩
 rw [hRES] at HE ⊢
 obtain ⟨m0,m1,m2,m3,n0,n1⟩:=CELL.out W0 ho1 ho2
 have i0:W0.cell? ⟨w.heap.size + 1 + 1,0,none⟩ = some (.int .i64 item.kind):=ho4.cell 0
 have i1:W0.cell? ⟨w.heap.size + 1 + 1,1,none⟩ = some (.string item.text):=ho4.cell 1
 have i2:W0.cell? ⟨w.heap.size + 1 + 1,2,none⟩ = some (.int .i64 item.cols):=ho4.cell 2
 have i3:W0.cell? ⟨w.heap.size + 1 + 1,3,none⟩ = some (.slice Ai item.kids.length ci):=ho4.cell 3
 clear hv hok hct hp hm hpl hml hb0 ho1 ho2 ho4 hRES hi hio hs64 hic
 obtain ⟨bv,hbv⟩:∃ bv,validS t = bv:=⟨_,rfl⟩
 obtain ⟨bi,hbi⟩:∃ bi,formedS (wrapOp [] 0 0 [item] slot) = bi:=⟨_,rfl⟩
 have HFO:Hid (bi = true→validS (rowT [item]) = true∧0≤slot∧slot < item.kids.length):=fun h=>wrapF_valid (hbi.trans h)
 rw [hbv] at CV HE
 rw [hbi] at CF HE
 clear hbv hbi
 go_enter Tryz.func94,Tryz.ntmps94
 go_upto_region 1 with fail
 clear hW0
 go_upto_region 2 with (first
  | (refine wpList_store_row rfl 67 (.tmp 10) (.tmp 18) rfl (W0.heap.size + 1) _ rfl rfl 67 _ (HasObj.at1 _ _ _) (by kernel_rfl) (by simp) (by simp [Value.oneCell']) ?_)
  | fail)
 generalize hX:World.setRow _ _ _ = X0
 have hbx:Below W0.heap.size W0 X0:=by rw [← hX];exact below_setRowB (blAlloc (blA _ _) _) (Nat.le_succ _) _
 have HON:Hid (HasObj X0 W0.heap.size (.cells #[.int .i64 item.kind,.string item.text,.int .i64 item.cols,.slice Ai item.kids.length ci] 24)):=by show HasObj _ _ _;rw [← hX];exact (setRow_other _ _ _ _ (by omega)).trans ((HasObj.at0 W0 _).al _)
 obtain ⟨gn,hgn⟩:∃ gn,W0.heap.size = gn:=⟨_,rfl⟩
 have HOD:Hid (HasObj X0 (W0.heap.size + 1) (.cells #[.int .i64 3,.slice none 0 0,.int .i64 0,.int .i64 0,.slice (some ⟨gn,0,none⟩) 1 1,.int .i64 slot,.string ⟨#[]⟩,.string ⟨#[]⟩] 67)):=by show HasObj _ _ _;rw [← hX,← hgn];exact (HasObj.at1 W0 _ _).row _
 simp only [hgn] at HON HOD ⊢
 have HNB:Hid (gn + 1≠w.heap.size + 1 + 1 + 1∧w.heap.size≤gn):=by have:=HLT.out;show _∧_;omega
 have HD5:Hid (gn + 1≠w.heap.size∧gn + 1≠w.heap.size + 1):=by have:=HLT.out;have:=HNB.out;show _∧_;omega
 obtain ⟨go,hgo⟩:∃ go,gn + 1 = go:=⟨_,rfl⟩
 have HNO:Hid (go≠w.heap.size + 1 + 1 + 1):=by have:=HNB.out;show _≠_;omega
 have HGO:Hid (w.heap.size≤go∧gn≠go):=by have:=HNB.out;show _∧_;omega
 have HD4:Hid (go≠w.heap.size + 1 + 1):=by have:=HLT.out;have:=HNB.out;show _≠_;omega
 simp only [hgo] at HOD HD5 ⊢
 have HB1:=hid (HB0.out.trans (hbx.mono HB0.out.size))
 have HO1:=hid (HO1.out.below hbx)
 have HO2:=hid (HO2.out.below hbx)
 have HO4:=hid (HO4.out.below hbx)
 have HG:=hid (HO3.out.below hbx)
 clear m0 m1 m2 m3 n0 n1 i0 i1 i2 i3 HO3 hX hbx hgn hgo HNB HLT
 obtain ⟨m0,m1,m2,m3,n0,n1⟩:=CELL.out X0 HO1.out HO2.out
 go_wp2_with fail
 refine (CV.out _ HB1.out).mono ?_
 rintro e wv ⟨rfl,hbv⟩
 have HB1:=hid (HB1.out.trans (hbv.mono HB1.out.size))
 have HO1:=hid (HO1.out.below hbv)
 have HO2:=hid (HO2.out.below hbv)
 have HO4:=hid (HO4.out.below hbv)
 have HON:=hid (HON.out.below hbv)
 have HOD:=hid (HOD.out.below hbv)
 have HG:=hid (HG.out.below hbv)
 clear hbv m0 m1 m2 m3 n0 n1 CV
 cases bv
 case false =>
  have HR:=hid (HE.out.1 rfl)
  clear HE CF
  go_wp2_with (first
   | (refine wpList_store_row rfl 36 (.tmp 8) (.tmp 27) rfl (w.heap.size + 1 + 1 + 1) _ rfl rfl 36 _ HG.out (by kernel_rfl) (by simp) (by simp [Value.oneCell']) ?_)
   | fail)
  refine bodyPost_ret (v:=.tuple #[.agg #[.slice none 0 0,.slice none 0 0,.slice none 0 0,.slice none 0 0,.slice none 0 0],.int .i64 1]) (results_row_tmp Tryz.results94 _ _ _ (w.heap.size + 1 + 1 + 1) 36 _ (0,0) _ rfl (HG.out.row _) rfl Tryz.underlying36 (by kernel_rfl) _ rfl) rfl ?_
  rw [HR.out]
  exact rec_zero 1 (below_setRowB HB1.out (by omega) _)
 case true =>
 obtain ⟨o0,o1,o2,o3,o4,o5,o6,o7⟩:=op_cells HOD.out
 go_wp2_with fail
 refine (CF.out _ _ HB1.out HON.out).mono ?_
 rintro e wi ⟨rfl,hbi⟩
 have HB1:=hid (HB1.out.trans (hbi.mono HB1.out.size))
 have HO1:=hid (HO1.out.below hbi)
 have HO2:=hid (HO2.out.below hbi)
 have HO4:=hid (HO4.out.below hbi)
 have HON:=hid (HON.out.below hbi)
 have HOD:=hid (HOD.out.below hbi)
 have HG:=hid (HG.out.below hbi)
 clear hbi CF o0 o1 o2 o3 o4 o5 o6 o7
 cases bi
 case false =>
  have HR:=hid (HE.out.1 rfl)
  clear HE
  go_wp2_with (first
   | (refine wpList_store_row rfl 36 (.tmp 8) (.tmp 27) rfl (w.heap.size + 1 + 1 + 1) _ rfl rfl 36 _ HG.out (by kernel_rfl) (by simp) (by simp [Value.oneCell']) ?_)
   | fail)
  refine bodyPost_ret (v:=.tuple #[.agg #[.slice none 0 0,.slice none 0 0,.slice none 0 0,.slice none 0 0,.slice none 0 0],.int .i64 1]) (results_row_tmp Tryz.results94 _ _ _ (w.heap.size + 1 + 1 + 1) 36 _ (0,0) _ rfl (HG.out.row _) rfl Tryz.underlying36 (by kernel_rfl) _ rfl) rfl ?_
  rw [HR.out]
  exact rec_zero 1 (below_setRowB HB1.out (by omega) _)
 case true =>
 have HFX:=hid (HFO.out rfl)
 clear HFO
 have HSL:=hid HFX.out.2
 have HFO:=hid HFX.out.1
 clear HFX
 obtain ⟨m0,m1,m2,m3,n0,n1⟩:=CELL.out wi HO1.out HO2.out
 go_wp2_with fail
 obtain ⟨⟨⟨rr,ra,rb⟩,se⟩,hof⟩:∃ OF,ofS t p m = OF:=⟨_,rfl⟩
 have HOF:=hid hof
 rw [hof] at CC HE
 refine (CC.out _ HB1.out).mono ?_
 rintro e w1 ⟨v1,rfl,hr1,hb1⟩
 simp only at hr1
 obtain ⟨Ar,cr,rfl⟩:=hr1.form
 have HLO:=hid (And.intro HON.out.lt HOD.out.lt)
 have HO1:=hid (HO1.out.below hb1)
 have HO2:=hid (HO2.out.below hb1)
 have HO4:=hid (HO4.out.below hb1)
 have HON:=hid (HON.out.below hb1)
 have HOD:=hid (HOD.out.below hb1)
 have HG:=hid (HG.out.below hb1)
 have HB1:=hid (HB1.out.trans (hb1.mono HB1.out.size))
 have HS1:=hid hb1.size
 clear hb1 m0 m1 m2 m3 n0 n1 CC hof
 go_upto_region 5 with (first
  | (refine wpList_store_row rfl 46 (.tmp 11) (.tmp 32) rfl w1.heap.size _ rfl rfl 46 _ (HasObj.at0 _ _) (by kernel_rfl) (by simp) (by simp [Value.oneCell']) ?_)
  | fail)
 generalize hX:World.setRow _ _ _ = X
 have hbx:Below w1.heap.size w1 X:=by rw [← hX];exact below_setRowB (blA w1 _) (Nat.le_refl _) _
 have HSX:Hid (HasObj X w1.heap.size (.cells #[.slice Ar rr.length cr,.int .i64 ra,.int .i64 rb] 46)):=by show HasObj _ _ _;rw [← hX];exact (HasObj.at0 w1 _).row _
 have HGS:Hid (w1.heap.size≠w.heap.size + 1 + 1 + 1∧w1.heap.size≠go):=⟨fun e=>Nat.lt_irrefl _ (e ▸ HG.out.lt),by have:=HLO.out;have:=HS1.out;omega⟩
 have HG:=hid (HG.out.below hbx)
 have HO1:=hid (HO1.out.below hbx)
 have HO2:=hid (HO2.out.below hbx)
 have HO4:=hid (HO4.out.below hbx)
 have HON:=hid (HON.out.below hbx)
 have HOD:=hid (HOD.out.below hbx)
 have HB2:=hid (HB1.out.trans (hbx.mono HB1.out.size))
 have HRR:Hid (IntsR X (fun k=>k≠go∧k < X.heap.size) rr (.slice Ar rr.length cr)):=hid (hr1.keep (fun q hq=>hbx.cell hq.2) (fun k hk=>⟨by have:=HLO.out;omega,Nat.lt_of_lt_of_le hk.2 hbx.size⟩))
 obtain ⟨gs,hgs⟩:∃ gs,w1.heap.size = gs:=⟨_,rfl⟩
 simp only [hgs] at HSX HGS ⊢
 clear hX hbx hgs HB1 hr1 HLO HS1
 by_cases hse:se = 0
 rotate_left
 ·have hse':(se != 0) = true:=by simp [hse]
  have HR:=hid (HE.out.2.1 rfl hse)
  clear HE hse
  go_wp2_with (first
   | (refine wpList_store_row rfl 36 (.tmp 8) (.tmp 36) rfl (w.heap.size + 1 + 1 + 1) _ rfl rfl 36 _ HG.out (by kernel_rfl) (by simp) (by simp [Value.oneCell']) ?_)
   | fail)
  refine bodyPost_ret (v:=.tuple #[.agg #[.slice none 0 0,.slice none 0 0,.slice none 0 0,.slice none 0 0,.slice none 0 0],.int .i64 se]) (results_row_tmp Tryz.results94 _ _ _ (w.heap.size + 1 + 1 + 1) 36 _ (0,0) _ rfl (HG.out.row _) rfl Tryz.underlying36 (by kernel_rfl) _ rfl) rfl ?_
  rw [HR.out]
  exact rec_zero se (below_setRowB HB2.out (by omega) _)
 subst hse
 have HR:=hid (HE.out.2.2 rr ra rb rfl rfl)
 have HF:=hid (of_facts HOF.out HIN.out.2.2.2.2.2.1 HIN.out.2.2.2.2.2.2)
 clear HE HOF
 have s0:X.cell? ⟨gs,0,none⟩ = some (.slice Ar rr.length cr):=HSX.out.cell 0
 have s1:X.cell? ⟨gs,1,none⟩ = some (.int .i64 ra):=HSX.out.cell 1
 have s2:X.cell? ⟨gs,2,none⟩ = some (.int .i64 rb):=HSX.out.cell 2
 have q1:X.cell? ⟨go,1,none⟩ = some (.slice none 0 0):=HOD.out.cell 1
 have q2:X.cell? ⟨go,2,none⟩ = some (.int .i64 0):=HOD.out.cell 2
 have q3:X.cell? ⟨go,3,none⟩ = some (.int .i64 0):=HOD.out.cell 3
 have f1:X.frozen? ⟨go,1,none⟩ = false:=HOD.out.free 1
 have f2:X.frozen? ⟨go,2,none⟩ = false:=HOD.out.free 2
 have f3:X.frozen? ⟨go,3,none⟩ = false:=HOD.out.free 3
 have d1:¬ gs = go:=HGS.out.2
 have d2:¬ go = gs:=fun e=>HGS.out.2 e.symm
 have v1:IntKind.i64.wrap (rb - ra) = rb - ra:=IntWalk.i64_in _ (by have:=HF.out;omega)
 go_upto_region 7 with fail
 go_region
 generalize hV:World.drew _ = V
 have hkv:Kept (fun k=>k = go) X V:=by rw [← hV];exact kw
 have HOD:Hid (HasObj V go (.cells #[.int .i64 3,.slice Ar rr.length cr,.int .i64 ra,.int .i64 (rb - ra),.slice (some ⟨gn,0,none⟩) 1 1,.int .i64 slot,.string ⟨#[]⟩,.string ⟨#[]⟩] 67)):=by show HasObj _ _ _;rw [← hV];exact (((HOD.out.set (i:=1) _).set (i:=2) _).set (i:=3) _).dr
 have HSX:=hid (hkv.obj HSX.out HGS.out.2)
 have HO1:=hid (hkv.obj HO1.out (fun e=>HD5.out.1 e.symm))
 have HO2:=hid (hkv.obj HO2.out (fun e=>HD5.out.2 e.symm))
 have HO4:=hid (hkv.obj HO4.out (fun e=>HD4.out e.symm))
 have HON:=hid (hkv.obj HON.out HGO.out.2)
 have HG:=hid (hkv.obj HG.out (fun e=>HNO.out e.symm))
 have HWB:Hid (Below w.heap.size w V):=HB2.out.trans (hkv.below HB2.out.size (fun k e=>by rw [e];exact HGO.out.1))
 have HRR:Hid (IntsR V (Lt V.heap.size) rr (.slice Ar rr.length cr)):=HRR.out.keep (fun q hq=>hkv.cell hq.2 hq.1) (fun k hk=>Nat.lt_of_lt_of_le hk.2 hkv.size)
 clear hV hkv s0 s1 s2 q1 q2 q3 f1 f2 f3 d1 d2 v1 HB2 HGS
 have v2:IntKind.i64.wrap (ra + 1) = ra + 1:=IntWalk.i64_in _ (by have:=HF.out;omega)
 have HK64:Hid (∀ i ∈ [ra + 1],In64 i):=fun i hi=>by rw [List.mem_singleton.1 hi];have:=HF.out;exact in64_small (by omega)
 have HL:Hid (rr.length + [ra + 1].length≤100000):=by have:=HF.out;show _ + 1≤_;omega
 have HNV:=hid (HNI.out V gn HWB.out HON.out)
 have HIV:=hid (HII.out.below HWB.out HWB.out.size)
 obtain ⟨z,hz⟩:∃ z,decide (rb - ra = 0) = z:=⟨_,rfl⟩
 have i9:((rb - ra) == 0) = z:=by rw [← hz];rfl
 have HKB:Hid (countS item≤1000∧item.kids.length≤1000):=wrapF_count HFO.out
 have HDN:Hid (∀ W gb pos Aq cq,RES = doneR t p m [(wrapOp rr ra (rb - ra) [item] slot)] pos []→Below V.heap.size V W→HasObj W gb (.cells #[.int .i64 3,.slice Ar rr.length cr,.int .i64 ra,.int .i64 (rb - ra),.slice (some ⟨gn,0,none⟩) 1 1,.int .i64 slot,.string ⟨#[]⟩,.string ⟨#[]⟩] 67)→IntsR W (Lt W.heap.size) pos (.slice Aq pos.length cq)→Calls Tryz.prog 138 #[.agg #[.int .i64 t.kind,.string t.text,.int .i64 t.cols,.slice A t.kids.length cap],.agg #[.slice Ap p.length cp,.slice Am m.length cm],.slice (some ⟨gb,0,none⟩) 1 1,.slice Aq pos.length cq] W (RecB W RES)):=fun W gb pos Aq cq hr hW hb hp9=>by
  have hw:=HWB.out.trans (hW.mono HWB.out.size)
  have hop:opE.R W (Lt W.heap.size) (wrapOp rr ra (rb - ra) [item] slot) [.int .i64 3,.slice Ar rr.length cr,.int .i64 ra,.int .i64 (rb - ra),.slice (some ⟨gn,0,none⟩) 1 1,.int .i64 slot,.string ⟨#[]⟩,.string ⟨#[]⟩]:=⟨_,_,rfl,by simp [wrapOp,In64],in64_small (by have:=HF.out;show _≤ra∧ra≤_;omega),in64_small (by have:=HF.out;show _≤rb - ra∧rb - ra≤_;omega),HS64.out,Nat.zero_le _,Nat.zero_le _,HRR.out.below hW hW.size,HNV.out.below hW hW.size⟩
  rw [hr]
  exact r14done_any t p m pos [(wrapOp rr ra (rb - ra) [item] slot)] A Ap Am (some ⟨gb,0,none⟩) Aq cap cp cm 1 cq W (HIN.out.1.below hw hw.size) HIN.out.2.1 HIN.out.2.2.1 (HIN.out.2.2.2.1.below hw hw.size) (HIN.out.2.2.2.2.1.below hw hw.size) hp9 (row_obj (E:=opE) hb hop hb.lt) (by simp) (fun k hk=>by
   have h0:k = 0:=by simpa using hk
   subst h0
   have:=HKB.out
   show countS item + 0≤_
   omega)
 rw [hz] at HR
 have s0:V.cell? ⟨gs,0,none⟩ = some (.slice Ar rr.length cr):=HSX.out.cell 0
 have s1:V.cell? ⟨gs,1,none⟩ = some (.int .i64 ra):=HSX.out.cell 1
 clear hz HNI HII HFO
 go_wp2_with fail
 refine (r14at_any rr [ra + 1] Ar _ cr _ _ (HRR.out.below (blA V _) (blA V _).size) (row_lt V [ra + 1] _ HK64.out (by simp [maxLen])) HL.out).mono ?_
 intro e w5 h5
 obtain ⟨v5,rfl,hi5,hb5⟩:=OwnPost.ints h5
 obtain ⟨Aq,cq,rfl⟩:=hi5.form
 generalize hP1:rr ++ [ra + 1] = P1 at *
 have HP1:=hid hP1
 clear hP1
 have HP:=hid hi5
 have HW5:=hid ((blA V _).trans (hb5.mono (blA V _).size))
 clear h5 hi5 hb5 s0 s1 v2
 have j3:w5.cell? ⟨w.heap.size + 1 + 1,3,none⟩ = some (.slice Ai item.kids.length ci):=(HO4.out.below HW5.out).cell 3
 have v3:IntKind.i64.wrap ((item.kids.length:Int) - 1) = (item.kids.length:Int) - 1:=IntWalk.i64_in _ (by have:=HKB.out;omega)
 go_wp2_with fail
 go_loopw [13,14] (fun v i wr=>Below V.heap.size V wr∧∃ (k:Nat) (pos:List Int) (Aq:Option Addr) (cq:Nat),k≤item.kids.length∧i = .int .i64 ((k:Int) - 1)∧v = .slice Aq pos.length cq∧IntsR wr (Lt wr.heap.size) pos (.slice Aq pos.length cq)∧pos = posW rr ra (emptyS (item.kids.drop k) (k:Int) slot z)) (fun _ i _=>(intOf i + 1).toNat)
 case atStart=>exact ⟨HW5.out,item.kids.length,_,Aq,cq,Nat.le_refl _,rfl,rfl,HP.out,by rw [emptyS_end (Nat.le_refl _)];exact HP1.out.symm⟩
 case round =>
  obtain ⟨hbk,k,pos,A5,c5,hk,rfl,rfl,hpo,hpe⟩:=hrel
  have HBK:=hid hbk
  have HPO:=hid hpo
  have HPE:=hid hpe
  clear hbk hpo hpe j3 v3
  rcases Nat.eq_zero_or_pos k with rfl | hk0
  ·have i1:¬ (0:Int)≤((0:Nat):Int) - 1:=by omega
   have HRF:Hid (RES = doneR t p m [(wrapOp rr ra (rb - ra) [item] slot)] pos []):=by show _ = _;rw [HR.out,HPE.out];rfl
   obtain ⟨m0,m1,m2,m3,n0,n1⟩:=CELL.out wr (HO1.out.below HBK.out) (HO2.out.below HBK.out)
   obtain ⟨o0,o1,o2,o3,o4,o5,o6,o7⟩:=op_cells (HOD.out.below HBK.out)
   have HDN:=hid (fun W gb Aq cq=>HDN.out W gb pos Aq cq HRF.out)
   go_wp2_with fail
   refine (HDN.out _ _ _ _ (HBK.out.trans ((blA wr _).mono HBK.out.size)) (HasObj.at0 _ _) (HPO.out.below (blA _ _) (blA _ _).size)).mono ?_
   rintro e wz hrec
   have HREC:=hid hrec
   obtain ⟨Ao9,co9,Ap9,cp9,Am9,cm9,Aap9,cap9,Aam9,cam9,rfl,_,_,_,_,_,hbw⟩:=hrec
   have HW:=hid ((HBK.out.trans ((blA wr _).mono HBK.out.size)).trans (hbw.mono (HBK.out.trans ((blA wr _).mono HBK.out.size)).size))
   have HGW:=hid (HG.out.below HW.out)
   clear hbw m0 m1 m2 m3 n0 n1
   go_wp2_with (first
    | (refine wpList_store_row rfl 36 (.tmp 8) (.tmp 96) rfl (w.heap.size + 1 + 1 + 1) #[.slice Ao9 RES.1.ops.length co9,.slice Ap9 RES.1.bp.length cp9,.slice Am9 RES.1.bm.length cm9,.slice Aap9 RES.1.ap.length cap9,.slice Aam9 RES.1.am.length cam9] rfl rfl 36 _ HGW.out (by kernel_rfl) (by simp) (by simp [Value.oneCell']) ?_)
    | fail)
   refine bodyPost_ret (v:=.tuple #[.agg #[.slice Ao9 RES.1.ops.length co9,.slice Ap9 RES.1.bp.length cp9,.slice Am9 RES.1.bm.length cm9,.slice Aap9 RES.1.ap.length cap9,.slice Aam9 RES.1.am.length cam9],.int .i64 RES.2]) (results_row_tmp Tryz.results94 _ _ _ (w.heap.size + 1 + 1 + 1) 36 _ (0,0) _ rfl (HGW.out.row _) rfl Tryz.underlying36 (by kernel_rfl) _ rfl) rfl ?_
   exact RecB.put (arr:=#[]) HREC.out HGW.out (Kept.setRow _ _ _) (size_setRow _ _ _) (HWB.out.trans (HW.out.mono HWB.out.size)) (by omega)
  ·obtain ⟨j,rfl⟩:∃ j,k = j + 1:=⟨k - 1,by omega⟩
   have hj:((j + 1:Nat):Int) - 1 = (j:Int):=by omega
   rw [hj]
   obtain ⟨_,_,rs,hq,hcap,hmax,hrd,hls⟩:=HIV.out.below HBK.out HBK.out.size
   cases hq
   obtain ⟨g,o,B9,bc,bs,rfl,hg,c0,c1,c2,c3,_,_,_,hc5,hc6,hrd9,hls9⟩:=trees_at hrd hls (show j < item.kids.length by omega)
   have HT:=hid (emptyS_drop (show j < item.kids.length by omega) slot z)
   have i0:(0:Int)≤(j:Int):=by omega
   have i1:(j:Int) < (item.kids.length:Int):=by omega
   have hlen:=HKB.out.2
   have v4:IntKind.i64.wrap ((j:Int) - 1) = (j:Int) - 1:=IntWalk.i64_in _ (by omega)
   obtain ⟨nk,hnk⟩:∃ n,item.kids[j].kids.length = n:=⟨_,rfl⟩
   rw [hnk] at c3 HT
   clear hnk hj hrd hls hcap hmax hc5 hc6 hrd9 hls9 hg c0 c1 c2
   have j3:wr.cell? ⟨w.heap.size + 1 + 1,3,none⟩ = some (.slice (some ⟨g,o,none⟩) item.kids.length ci):=(HO4.out.below HBK.out).cell 3
   have q3:wr.cell? ⟨go,3,none⟩ = some (.int .i64 (rb - ra)):=(HOD.out.below HBK.out).cell 3
   have s0:wr.cell? ⟨gs,0,none⟩ = some (.slice Ar rr.length cr):=(HSX.out.below HBK.out).cell 0
   have s1:wr.cell? ⟨gs,1,none⟩ = some (.int .i64 ra):=(HSX.out.below HBK.out).cell 1
   have H64:Hid (∀ i ∈ [ra,(j:Int),0],In64 i):=fun i hi=>by
    have:=HF.out
    have:=HKB.out
    simp only [List.mem_cons,List.not_mem_nil,or_false] at hi
    rcases hi with rfl | rfl | rfl <;> exact in64_small (by omega)
   have HL3:Hid (rr.length + [ra,(j:Int),0].length≤100000):=by have:=HF.out;show _ + 3≤_;omega
   by_cases h1:nk = 0
   ·rw [h1] at c3
    have i2:(((0:Nat):Int) == 0) = true:=rfl
    by_cases h2:(j:Int) = slot
    ·have i3:((j:Int) != slot) = false:=by simp [h2]
     cases z
     case false =>
      have HF2:Hid (pos = posW rr ra (emptyS (item.kids.drop j) (j:Int) slot false)):=by show _ = _;rw [HPE.out,HT.out,if_neg (by simp [h2])]
      clear h1 h2
      go_wp2_with fail
      go_roundw
      case rel=>exact ⟨HBK.out,j,pos,A5,c5,by omega,by go_num,rfl,HPO.out,HF2.out⟩
      case measure=>simp [intOf] <;> omega
     case true =>
      have HF2:Hid (rr ++ [ra,(j:Int),0] = posW rr ra (emptyS (item.kids.drop j) (j:Int) slot true)):=by show _ = _;rw [HT.out,if_pos ⟨h1,.inr rfl⟩];rfl
      clear h1 h2
      go_wp2_with fail
      refine (r14at_any rr [ra,(j:Int),0] Ar _ cr _ _ (HRR.out.below (HBK.out.trans ((blA wr _).mono HBK.out.size)) (HBK.out.trans ((blA wr _).mono HBK.out.size)).size) (row_lt wr [ra,(j:Int),0] _ H64.out (by simp [maxLen])) HL3.out).mono ?_
      intro e w6 h6
      obtain ⟨v6,rfl,hi6,hb6⟩:=OwnPost.ints h6
      obtain ⟨A6,c6,rfl⟩:=hi6.form
      generalize rr ++ [ra,(j:Int),0] = P2 at *
      have HP6:=hid hi6
      have HBK:=hid ((HBK.out.trans ((blA wr _).mono HBK.out.size)).trans (hb6.mono (HBK.out.trans ((blA wr _).mono HBK.out.size)).size))
      clear h6 hi6 hb6
      go_wp2_with fail
      go_roundw
      case rel=>exact ⟨HBK.out,j,_,A6,c6,by omega,by go_num,rfl,HP6.out,HF2.out⟩
      case measure=>simp [intOf] <;> omega
    ·have i3:((j:Int) != slot) = true:=by simp [h2]
     have HF2:Hid (rr ++ [ra,(j:Int),0] = posW rr ra (emptyS (item.kids.drop j) (j:Int) slot z)):=by show _ = _;rw [HT.out,if_pos ⟨h1,.inl h2⟩];rfl
     clear h1 h2
     go_wp2_with fail
     refine (r14at_any rr [ra,(j:Int),0] Ar _ cr _ _ (HRR.out.below (HBK.out.trans ((blA wr _).mono HBK.out.size)) (HBK.out.trans ((blA wr _).mono HBK.out.size)).size) (row_lt wr [ra,(j:Int),0] _ H64.out (by simp [maxLen])) HL3.out).mono ?_
     intro e w6 h6
     obtain ⟨v6,rfl,hi6,hb6⟩:=OwnPost.ints h6
     obtain ⟨A6,c6,rfl⟩:=hi6.form
     generalize rr ++ [ra,(j:Int),0] = P2 at *
     have HP6:=hid hi6
     have HBK:=hid ((HBK.out.trans ((blA wr _).mono HBK.out.size)).trans (hb6.mono (HBK.out.trans ((blA wr _).mono HBK.out.size)).size))
     clear h6 hi6 hb6
     go_wp2_with fail
     go_roundw
     case rel=>exact ⟨HBK.out,j,_,A6,c6,by omega,by go_num,rfl,HP6.out,HF2.out⟩
     case measure=>simp [intOf] <;> omega
   ·have i2:((nk:Int) == 0) = false:=by rw [beq_eq_false_iff_ne];omega
    have HF2:Hid (pos = posW rr ra (emptyS (item.kids.drop j) (j:Int) slot z)):=by show _ = _;rw [HPE.out,HT.out,if_neg (by simp [h1])]
    clear h1
    go_wp2_with fail
    go_roundw
    case rel=>exact ⟨HBK.out,j,pos,A5,c5,by omega,by go_num,rfl,HPO.out,HF2.out⟩
    case measure=>simp [intOf] <;> omega
end Go.Proofs.YtbjcioknfjofkaaGreat
