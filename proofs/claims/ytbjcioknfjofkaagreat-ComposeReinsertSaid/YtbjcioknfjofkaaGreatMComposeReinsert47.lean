/- Texts put together. -/
import Derived.Test.YtbjcioknfjofkaaGreatMComposeReinsert21
import Derived.Test.YtbjcioknfjofkaaGreatMComposeReinsert46
set_option linter.unusedVariables false
set_option linter.unusedSimpArgs false
set_option maxRecDepth 100000
namespace Go.Proofs.YtbjcioknfjofkaaGreat
open Go.RowKit
theorem ins_cases (t:Tree) (p m:List Int) (items:List Tree):((validS t && validS (rowT items)) = false→cinsertS t p m items = (recZ,1))∧((validS t && validS (rowT items)) = true→(ofS t p m).2≠0→cinsertS t p m items = (recZ,(ofS t p m).2)) ∧
  (∀ rr ra rb,(validS t && validS (rowT items)) = true→ofS t p m = ((rr,ra,rb),0)→cinsertS t p m items = doneR t p m ((if ra < rb then [delOp rr ra (itemsR t rr ra rb).1] else []) ++ if items.length = 0 then [] else [insOp rr ra items]) (rr ++ [ra + items.length]) []):=by
 refine ⟨fun h=>?_,fun h h2=>?_,fun rr ra rb h h1=>?_⟩
 ·unfold cinsertS;rw [if_pos h]
 ·unfold cinsertS;rw [if_neg (by simp [h]),if_pos h2]
 ·have h2:=(items_of (t:=t) (p:=p) (m:=m) (by rw [h1])).2
  have h3:=(of_ok (t:=t) (p:=p) (m:=m) (by rw [h1]))
  obtain ⟨_,_,_,f1,f2,f3,f4⟩:=h3
  rw [h1] at h2 f3
  simp only at h2 f3
  unfold cinsertS cutS
  rw [if_neg (by simp [h]),h1]
  simp only
  rw [if_neg (by simp)]
  have e:(if (itemsR t rr ra rb).1.length = 0 then [] else [delOp rr ra (itemsR t rr ra rb).1]) = (if ra < rb then [delOp rr ra (itemsR t rr ra rb).1] else []):=by
   by_cases hlt:ra < rb
   ·rw [if_pos hlt,if_neg (by omega)]
   ·rw [if_neg hlt,if_pos (by omega)]
  rw [e]
  rfl
set_option maxHeartbeats 16000000 in
theorem cInsert_any (t:Tree) (p m:List Int) (items:List Tree) (A Ap Am An:Option Addr) (cap cp cm cn:Nat) (w:World) (hv:SliceR treeE w (Lt w.heap.size) t.kids (.slice A t.kids.length cap)) (hok:NodeOk t) (hct:countS t≤900000) (hp:IntsR w (Lt w.heap.size) p (.slice Ap p.length cp)) (hm:IntsR w (Lt w.heap.size) m (.slice Am m.length cm)) (hpl:p.length≤90000) (hml:m.length≤90000) (hi:SliceR treeE w (Lt w.heap.size) items (.slice An items.length cn)) (hic:countsS items≤900000) (hil:items.length≤900000) :
  Calls Tryz.prog 20 #[.agg #[.int .i64 t.kind,.string t.text,.int .i64 t.cols,.slice A t.kids.length cap],.agg #[.slice Ap p.length cp,.slice Am m.length cm],.slice An items.length cn] w (RecF w (cinsertS t p m items)):=by
 obtain ⟨W0,hW0⟩:∃ W0,((w.alloc (.cells #[.int .i64 t.kind,.string t.text,.int .i64 t.cols,.slice A t.kids.length cap] 24)).alloc (.cells #[.slice Ap p.length cp,.slice Am m.length cm] 33)).alloc (.cells #[.slice none 0 0,.slice none 0 0,.slice none 0 0,.slice none 0 0,.slice none 0 0] 36) = W0:=⟨_,rfl⟩
 have hb0:Below w.heap.size w W0:=by rw [← hW0];exact blAlloc (blAlloc (blA _ _) _) _
 have ho1:HasObj W0 w.heap.size (.cells #[.int .i64 t.kind,.string t.text,.int .i64 t.cols,.slice A t.kids.length cap] 24):=by rw [← hW0];exact ((HasObj.at0 _ _).al _).al _
 have ho2:HasObj W0 (w.heap.size + 1) (.cells #[.slice Ap p.length cp,.slice Am m.length cm] 33):=by rw [← hW0];exact (HasObj.at1 _ _ _).al _
 have HO1:=hid ho1
 have HO2:=hid ho2
 have HO3:Hid (HasObj W0 (w.heap.size + 1 + 1) (.cells #[.slice none 0 0,.slice none 0 0,.slice none 0 0,.slice none 0 0,.slice none 0 0] 36)):=by show HasObj _ _ _;rw [← hW0];exact HasObj.at2 _ _ _ _
 have HB0:=hid hb0
 have CELL:Hid (∀ W,HasObj W w.heap.size (.cells #[.int .i64 t.kind,.string t.text,.int .i64 t.cols,.slice A t.kids.length cap] 24)→HasObj W (w.heap.size + 1) (.cells #[.slice Ap p.length cp,.slice Am m.length cm] 33)→W.cell? ⟨w.heap.size,0,none⟩ = some (.int .i64 t.kind)∧W.cell? ⟨w.heap.size,1,none⟩ = some (.string t.text)∧W.cell? ⟨w.heap.size,2,none⟩ = some (.int .i64 t.cols)∧W.cell? ⟨w.heap.size,3,none⟩ = some (.slice A t.kids.length cap)∧W.cell? ⟨w.heap.size + 1,0,none⟩ = some (.slice Ap p.length cp)∧W.cell? ⟨w.heap.size + 1,1,none⟩ = some (.slice Am m.length cm)):=fun W h1 h2=>⟨h1.cell 0,h1.cell 1,h1.cell 2,h1.cell 3,h2.cell 0,h2.cell 1⟩
 have CL:Hid (∀ W,Below w.heap.size w W→Calls Tryz.prog 37 #[.agg #[.int .i64 t.kind,.string t.text,.int .i64 t.cols,.slice A t.kids.length cap],.agg #[.slice Ap p.length cp,.slice Am m.length cm]] W _):=fun W hW=>look_st t p m A Ap Am cap cp cm W (hv.below hW hW.size) hok hct (hp.below hW hW.size) (hm.below hW hW.size) hpl hml
 have CV:Hid (∀ W,Below w.heap.size w W→Calls Tryz.prog 49 #[.agg #[.int .i64 t.kind,.string t.text,.int .i64 t.cols,.slice A t.kids.length cap]] W fun e w'=>e = .returned (.bool (validS t))∧Below W.heap.size W w'):=fun W hW=>nValid_any t A cap W (hv.below hW hW.size) hok.2.2
 have CI:Hid (∀ W,Below w.heap.size w W→Calls Tryz.prog 50 #[.slice An items.length cn] W (EqC W (validS (rowT items)))):=fun W hW=>nItems_any items An cn W (hi.below hW hW.size)
 have HE:=hid (ins_cases t p m items)
 have HIN:=hid (And.intro hok (And.intro hi (And.intro hic hil)))
 obtain ⟨RES,hRES⟩:∃ RES,cinsertS t p m items = RES:=⟨_,rfl⟩
 rw [hRES] at HE ⊢
 obtain ⟨m0,m1,m2,m3,n0,n1⟩:=CELL.out W0 ho1 ho2
 clear hv hok hct hp hm hpl hml hb0 ho1 ho2 hRES hi hic hil
 obtain ⟨bv,hbv⟩:∃ bv,validS t = bv:=⟨_,rfl⟩
 obtain ⟨bi,hbi⟩:∃ bi,validS (rowT items) = bi:=⟨_,rfl⟩
 rw [hbv] at CV HE
 rw [hbi] at CI HE
 clear hbv hbi
 go_enter Tryz.func20,Tryz.ntmps20
 go_wp2_with fail
 refine (CV.out _ HB0.out).mono ?_
 rintro e wv ⟨rfl,hbv⟩
 have HB1:=hid (HB0.out.trans (hbv.mono HB0.out.size))
 have HO1:=hid (HO1.out.below hbv)
 have HO2:=hid (HO2.out.below hbv)
 have HG:=hid (HO3.out.below hbv)
 clear hbv m0 m1 m2 m3 n0 n1 hW0 HO3 CV
 cases bv
 case false =>
  have HR:=hid (HE.out.1 rfl)
  clear HE CI
  go_wp2_with (first
   | (refine wpList_store_row rfl 36 (.tmp 6) (.tmp 19) rfl (w.heap.size + 1 + 1) _ rfl rfl 36 _ HG.out (by kernel_rfl) (by simp) (by simp [Value.oneCell']) ?_)
   | fail)
  refine bodyPost_ret (v:=.tuple #[.agg #[.slice none 0 0,.slice none 0 0,.slice none 0 0,.slice none 0 0,.slice none 0 0],.int .i64 1]) (results_row_tmp Tryz.results20 _ _ _ (w.heap.size + 1 + 1) 36 _ (0,0) _ rfl (HG.out.row _) rfl Tryz.underlying36 (by kernel_rfl) _ rfl) rfl ?_
  rw [HR.out]
  exact recF_zero 1 (below_setRowB HB1.out (by omega) _)
 case true =>
 go_wp2_with fail
 refine (CI.out _ HB1.out).mono ?_
 rintro e wi ⟨rfl,hbi⟩
 have HB1:=hid (HB1.out.trans (hbi.mono HB1.out.size))
 have HO1:=hid (HO1.out.below hbi)
 have HO2:=hid (HO2.out.below hbi)
 have HG:=hid (HG.out.below hbi)
 clear hbi CI
 cases bi
 case false =>
  have HR:=hid (HE.out.1 rfl)
  clear HE
  go_wp2_with (first
   | (refine wpList_store_row rfl 36 (.tmp 6) (.tmp 19) rfl (w.heap.size + 1 + 1) _ rfl rfl 36 _ HG.out (by kernel_rfl) (by simp) (by simp [Value.oneCell']) ?_)
   | fail)
  refine bodyPost_ret (v:=.tuple #[.agg #[.slice none 0 0,.slice none 0 0,.slice none 0 0,.slice none 0 0,.slice none 0 0],.int .i64 1]) (results_row_tmp Tryz.results20 _ _ _ (w.heap.size + 1 + 1) 36 _ (0,0) _ rfl (HG.out.row _) rfl Tryz.underlying36 (by kernel_rfl) _ rfl) rfl ?_
  rw [HR.out]
  exact recF_zero 1 (below_setRowB HB1.out (by omega) _)
 case true =>
 obtain ⟨m0,m1,m2,m3,n0,n1⟩:=CELL.out wi HO1.out HO2.out
 go_wp2_with fail
 refine (CL.out _ HB1.out).mono ?_
 rintro e w1 ⟨hb1,h1⟩
 have HG:=hid (HG.out.below hb1)
 have HB1:=hid (HB1.out.trans (hb1.mono HB1.out.size))
 clear hb1 m0 m1 m2 m3 n0 n1 CL HO1 HO2 CELL HB0
 rcases h1 with ⟨he,rfl⟩ | ⟨he,rr,Ar,cr,ra,rb,q,A1,o,its,Ai,ci,ar,q2,A2,c2,i,s,it,A3,c3,rfl,hst⟩
 ·have HR:=hid (HE.out.2.1 rfl he)
  have hse:((ofS t p m).2 != 0) = true:=by simp [he]
  clear HE he
  generalize (ofS t p m).2 = se at *
  go_upto_region 4 with (first
   | (refine wpList_store_row rfl 73 (.tmp 8) (.tmp 24) rfl w1.heap.size _ rfl rfl 73 _ (HasObj.at0 _ _) (by kernel_rfl) (by simp) (by simp [Value.oneCell']) ?_)
   | fail)
  generalize hX:World.setRow _ _ _ = X
  have HBX:Hid (Below w.heap.size w X):=by show Below _ _ _;rw [← hX];exact below_setRowB (HB1.out.trans ((blA w1 _).mono HB1.out.size)) HB1.out.size _
  have HG:Hid (HasObj X (w.heap.size + 1 + 1) (.cells #[.slice none 0 0,.slice none 0 0,.slice none 0 0,.slice none 0 0,.slice none 0 0] 36)):=by show HasObj _ _ _;rw [← hX];exact (setRow_other _ _ _ _ (Nat.ne_of_lt HG.out.lt)).trans (HG.out.al _)
  clear hX
  go_wp2_with (first
   | (refine wpList_store_row rfl 36 (.tmp 6) (.tmp 28) rfl (w.heap.size + 1 + 1) _ rfl rfl 36 _ HG.out (by kernel_rfl) (by simp) (by simp [Value.oneCell']) ?_)
   | fail)
  refine bodyPost_ret (v:=.tuple #[.agg #[.slice none 0 0,.slice none 0 0,.slice none 0 0,.slice none 0 0,.slice none 0 0],.int .i64 se]) (results_row_tmp Tryz.results20 _ _ _ (w.heap.size + 1 + 1) 36 _ (0,0) _ rfl (HG.out.row _) rfl Tryz.underlying36 (by kernel_rfl) _ rfl) rfl ?_
  rw [HR.out]
  exact recF_zero se (below_setRowB HBX.out (by omega) _)
 ·have hof:=hst.of
  simp only at hof
  have HR:=hid (HE.out.2.2 rr ra rb rfl hof)
  simp only [stC]
  clear HE he hof
  go_upto_region 4 with (first
   | (refine wpList_store_row rfl 73 (.tmp 8) (.tmp 24) rfl w1.heap.size _ rfl rfl 73 _ (HasObj.at0 _ _) (by kernel_rfl) (by simp) (by simp [Value.oneCell']) ?_)
   | fail)
  generalize hX:World.setRow _ _ _ = X
  have hbx:Below w1.heap.size w1 X:=by rw [← hX];exact below_setRowB (blA w1 _) (Nat.le_refl _) _
  have HSX:Hid (HasObj X w1.heap.size (.cells #[.int .i64 t.kind,.string t.text,.int .i64 t.cols,.slice A t.kids.length cap,.slice Ap p.length cp,.slice Am m.length cm,.slice Ar rr.length cr,.int .i64 ra,.int .i64 rb,.slice A1 q.length cp,.int .i64 o,.slice Ai its.length ci,.bool ar,.slice A2 q2.length c2,.int .i64 i,.int .i64 s,.int .i64 it.kind,.string it.text,.int .i64 it.cols,.slice A3 it.kids.length c3] 73)):=by show HasObj _ _ _;rw [← hX];exact (HasObj.at0 w1 _).row _
  have HGX:=hid (HG.out.below hbx)
  have HWB:=hid (HB1.out.trans (hbx.mono HB1.out.size))
  have HST:=hid (hst.bl hbx)
  have hf:=st_facts hst
  simp only at hf
  have HF:=hid hf
  clear hf
  have HRD:=hid (hst.r.below hbx hbx.size)
  have HIX:=hid (HIN.out.2.1.below HWB.out HWB.out.size)
  obtain ⟨gs,hgs⟩:∃ gs,w1.heap.size = gs:=⟨_,rfl⟩
  simp only [hgs] at HSX ⊢
  clear hX hbx hst hgs HG HB1
  have CC:Hid (∀ W,Below X.heap.size X W→Calls Tryz.prog 41 #[.agg #[.int .i64 t.kind,.string t.text,.int .i64 t.cols,.slice A t.kids.length cap,.slice Ap p.length cp,.slice Am m.length cm,.slice Ar rr.length cr,.int .i64 ra,.int .i64 rb,.slice A1 q.length cp,.int .i64 o,.slice Ai its.length ci,.bool ar,.slice A2 q2.length c2,.int .i64 i,.int .i64 s,.int .i64 it.kind,.string it.text,.int .i64 it.cols,.slice A3 it.kids.length c3]] W (OpP (Lt X.heap.size) W (delOp rr ra (itemsR t rr ra rb).1))):=fun W hW=>by have h9:=HST.out.bl hW;exact cut_any (Lt X.heap.size) t rr ra rb A Ar cap cr _ _ _ _ _ _ _ _ _ _ _ _ _ W h9.tk HIN.out.1 h9.tct (HST.out.r.keep (fun r hr=>hW.cell hr) (fun k hk=>⟨Nat.lt_of_lt_of_le hk hW.size,hk⟩)) (in64_small (by have:=HF.out;omega)) (in64_small (by have:=HF.out;omega))
  have CSE:=hid (fun (W:World) (x0 x1 x2 x3 x4 x5 x6 x9 x10 x11 x12 x13 x14 x15 x16 x17 x18 x19:Value)=>(selected_any x0 x1 x2 x3 x4 x5 x6 x9 x10 x11 x12 x13 x14 x15 x16 x17 x18 x19 ra rb W:Calls Tryz.prog 38 #[.agg #[x0,x1,x2,x3,x4,x5,x6,.int .i64 ra,.int .i64 rb,x9,x10,x11,x12,x13,x14,x15,x16,x17,x18,x19]] W (EqC W (decide (ra < rb)))))
  obtain ⟨l9,hl9⟩:∃ l9,(itemsR t rr ra rb).1 = l9:=⟨_,rfl⟩
  have HLC:Hid (countsS l9≤1000):=by show _≤_;rw [← hl9];exact items_count HF.out.1 rr ra rb
  rw [hl9] at CC HR
  clear hl9
  have HRB:=hid (show rr.length≤90000∧0≤ra∧ra≤rb∧rb≤1000 from by have:=HF.out;exact ⟨by omega,by omega,by omega,by omega⟩)
  have HDN:Hid (∀ W B ops pos,BA X W B #[.int .i64 t.kind,.string t.text,.int .i64 t.cols,.slice A t.kids.length cap,.slice Ap p.length cp,.slice Am m.length cm,.slice Ar rr.length cr,.int .i64 ra,.int .i64 rb,.slice A1 q.length cp,.int .i64 o,.slice Ai its.length ci,.bool ar,.slice A2 q2.length c2,.int .i64 i,.int .i64 s,.int .i64 it.kind,.string it.text,.int .i64 it.cols,.slice A3 it.kids.length c3] ops pos []→ops.length≤1000→Calls Tryz.prog 43 #[.pointer (some ⟨B,0,none⟩)] W (RecF X (doneR t p m ops pos []))):=fun W B ops pos hb hl=>st_done HST.out hb.below hb hl
  clear HF HST
  obtain ⟨bl,hbl⟩:∃ bl,decide (ra < rb) = bl:=⟨_,rfl⟩
  rw [hbl] at CSE
  have hq:(if ra < rb then [delOp rr ra l9] else []) = (if bl = true then [delOp rr ra l9] else []):=by
   rw [← hbl]
   by_cases h:ra < rb <;> simp [h]
  rw [hq] at HR
  clear hq hbl
  go_upto_region 7 with (first
   | (refine wpList_load_row rfl 73 (.tmp 8) rfl gs rfl 73 _ (0,0) _ HSX.out Tryz.underlying73 rfl (by kernel_rfl) ?_)
   | (go_at_call 39;refine Calls.mono (cb_build _ _ _ _ _ _ _ _ _ _ _ _ _ _ _ _ _ _ _ _ X _ (Below.refl _ _)) ?_;rintro e wb ⟨B,F,rfl,hbs,_⟩;have HB:=hid hbs;clear hbs)
   | fail)
  have HS:=hid (HSX.out.below HB.out.below)
  go_upto_if 33 with (first
   | (refine wpList_load_row rfl 73 (.tmp 8) rfl gs rfl 73 _ (0,0) _ HS.out Tryz.underlying73 rfl (by kernel_rfl) ?_)
   | (go_at_call 38;refine Calls.mono (CSE.out _ _ _ _ _ _ _ _ _ _ _ _ _ _ _ _ _ _ _) ?_;rintro e w2 ⟨rfl,hb2⟩;have HB:=hid (HB.out.bl hb2);clear hb2)
   | fail)
  have HS:=hid (HSX.out.below HB.out.below)
  cases bl
  case' true =>
   go_upto_region 9 with (first
    | (refine wpList_load_row rfl 73 (.tmp 8) rfl gs rfl 73 _ (0,0) _ HS.out Tryz.underlying73 rfl (by kernel_rfl) ?_)
    | (go_at_call 41;refine Calls.mono (CC.out _ HB.out.below) ?_;rintro e w3 ⟨Ar9,cr9,An9,cn9,rfl,hr9,hn9,hb9⟩;have HO9:=hid (And.intro hr9 hn9);have HB:=hid (HB.out.bl hb9);clear hr9 hn9 hb9)
    | (go_at_call 40;refine Calls.mono (cb_op HB.out (delOp rr ra l9) _ _ _ _ (by simp) (HO9.out.1.keep (fun _ _=>rfl) (fun k hk=>hk.1)) (HO9.out.2.keep (fun _ _=>rfl) (fun k hk=>hk.1)) (Nat.le_trans HRB.out.1 (by decide)) (Nat.le_trans HLC.out (by decide)) (by simp [delOp,In64]) (in64_small (by have:=HRB.out;simp only [delOp];omega)) (by simp [delOp,In64]) (by simp [delOp,In64]) (Nat.zero_le _) (Nat.zero_le _)) ?_;rintro e w4 ⟨F2,rfl,hbs,_⟩;have HB:=hid hbs;clear hbs)
    | fail)
   have HB:Hid (BS X w4 F2 B #[.int .i64 t.kind,.string t.text,.int .i64 t.cols,.slice A t.kids.length cap,.slice Ap p.length cp,.slice Am m.length cm,.slice Ar rr.length cr,.int .i64 ra,.int .i64 rb,.slice A1 q.length cp,.int .i64 o,.slice Ai its.length ci,.bool ar,.slice A2 q2.length c2,.int .i64 i,.int .i64 s,.int .i64 it.kind,.string it.text,.int .i64 it.cols,.slice A3 it.kids.length c3] [delOp rr ra l9]):=HB
   have HR:Hid (RES = doneR t p m ([delOp rr ra l9] ++ if items.length = 0 then [] else [insOp rr ra items]) (rr ++ [ra + items.length]) []):=HR
   have HL1:Hid ([delOp rr ra l9].length≤1):=Nat.le_refl _
   generalize [delOp rr ra l9] = ops1 at *
   generalize F2 = F at *
   generalize w4 = w9 at *
  case' false =>
   go_upto_region 9 with fail
   obtain ⟨ops1,h1⟩:∃ ops1:List OpD,ops1 = []:=⟨_,rfl⟩
   have HB:Hid (BS X w2 F B #[.int .i64 t.kind,.string t.text,.int .i64 t.cols,.slice A t.kids.length cap,.slice Ap p.length cp,.slice Am m.length cm,.slice Ar rr.length cr,.int .i64 ra,.int .i64 rb,.slice A1 q.length cp,.int .i64 o,.slice Ai its.length ci,.bool ar,.slice A2 q2.length c2,.int .i64 i,.int .i64 s,.int .i64 it.kind,.string it.text,.int .i64 it.cols,.slice A3 it.kids.length c3] ops1):=by rw [h1];exact HB
   have HR:Hid (RES = doneR t p m (ops1 ++ if items.length = 0 then [] else [insOp rr ra items]) (rr ++ [ra + items.length]) []):=by rw [h1];exact HR
   have HL1:Hid (ops1.length≤1):=by rw [h1];exact Nat.zero_le _
   clear h1
   generalize w2 = w9 at *
  all_goals
   have HS:=hid (HSX.out.below HB.out.below)
   have s6:w9.cell? ⟨gs,6,none⟩ = some (.slice Ar rr.length cr):=HS.out.cell 6
   have s7:w9.cell? ⟨gs,7,none⟩ = some (.int .i64 ra):=HS.out.cell 7
   have v1:IntKind.i64.wrap (ra + (items.length:Int)) = ra + (items.length:Int):=by have:=HRB.out;have:=HIN.out.2.2.2;exact IntWalk.i64_in _ (by omega)
   have HPL:Hid (rr.length + [ra + (items.length:Int)].length≤100000):=by have:=HRB.out;show rr.length + 1≤_;omega
   have H64:Hid (∀ i ∈ [ra + (items.length:Int)],In64 i):=fun i hi=>by rw [List.mem_singleton.1 hi];have:=HRB.out;have:=HIN.out.2.2.2;exact in64_small (by omega)
   rcases Nat.eq_zero_or_pos items.length with hz | hz
   case' inl =>
    have i5:decide ((0:Int) < (items.length:Int)) = false:=by rw [decide_eq_false_iff_not];omega
    have i5':decide (0 < items.length) = false:=by rw [decide_eq_false_iff_not];omega
    have HR2:Hid (RES = doneR t p m ops1 (rr ++ [ra + items.length]) []∧ops1.length≤2):=⟨HR.out.trans (by rw [if_pos hz,List.append_nil]),Nat.le_trans HL1.out (by decide)⟩
    clear hz HR
    go_upto_region 11 with fail
   case' inr =>
    have i5:decide ((0:Int) < (items.length:Int)) = true:=by rw [decide_eq_true_eq];omega
    have i5':decide (0 < items.length) = true:=by rw [decide_eq_true_eq];omega
    have HR2:Hid (RES = doneR t p m (ops1 ++ [insOp rr ra items]) (rr ++ [ra + items.length]) []∧(ops1 ++ [insOp rr ra items]).length≤2):=⟨HR.out.trans (by rw [if_neg (by omega)]),by have:=HL1.out;simp;omega⟩
    clear hz HR
    have hxo:=HIX.out.below HB.out.below HB.out.below.size
    have hro:=HRD.out.below HB.out.below HB.out.below.size
    have HXO:=hid hxo
    have HRO:=hid hro
    clear hxo hro
    go_upto_region 11 with (first
     | (go_at_call 40;refine Calls.mono (cb_op HB.out (insOp rr ra items) Ar An cr cn (Nat.le_trans HL1.out (by decide)) HRO.out HXO.out (Nat.le_trans HRB.out.1 (by decide)) (Nat.le_trans HIN.out.2.2.1 (by decide)) (by simp [insOp,In64]) (in64_small (by have:=HRB.out;simp only [insOp];omega)) (by simp [insOp,In64]) (by simp [insOp,In64]) (Nat.zero_le _) (Nat.zero_le _)) ?_;rintro e w8 ⟨F2,rfl,hbs,_⟩;have HB:=hid hbs;clear hbs)
     | fail)
    generalize ops1 ++ [insOp rr ra items] = ops2 at HB HR2
    clear s6 s7 HS HXO HRO HL1
    have HS:=hid (HSX.out.below HB.out.below)
    have s6:w8.cell? ⟨gs,6,none⟩ = some (.slice Ar rr.length cr):=HS.out.cell 6
    have s7:w8.cell? ⟨gs,7,none⟩ = some (.int .i64 ra):=HS.out.cell 7
   all_goals
    have hro:=HRD.out.below HB.out.below HB.out.below.size
    have HRO:=hid hro
    clear hro
    go_wp2_with (first
     | (go_at_call 42;refine Calls.mono (cb_at (HB.out.bl (blA _ _)) rr [ra + (items.length:Int)] Ar _ cr _ (HRO.out.below (blA _ _) (blA _ _).size) (row_lt _ [ra + (items.length:Int)] _ H64.out (by simp [maxLen])) HPL.out) ?_;rintro e w5 ⟨rfl,hba⟩;have HBA:=hid hba;clear hba)
     | (go_at_call 43;refine Calls.mono (HDN.out _ _ _ _ HBA.out (Nat.le_trans HR2.out.2 (by decide))) ?_;rintro e wk hrec;rw [← HR2.out.1] at hrec;have HREC:=hid hrec;obtain ⟨Ao9,co9,Ap9,cp9,Am9,cm9,Aap9,cap9,Aam9,cam9,rfl,_,_,_,_,_,hbw⟩:=hrec;have HGW:=hid (HGX.out.below hbw);clear hbw)
     | (refine wpList_store_row rfl 36 (.tmp 6) (.tmp 64) rfl (w.heap.size + 1 + 1) #[.slice Ao9 RES.1.ops.length co9,.slice Ap9 RES.1.bp.length cp9,.slice Am9 RES.1.bm.length cm9,.slice Aap9 RES.1.ap.length cap9,.slice Aam9 RES.1.am.length cam9] rfl rfl 36 _ HGW.out (by kernel_rfl) (by simp) (by simp [Value.oneCell']) ?_)
     | fail)
    refine bodyPost_ret (v:=.tuple #[.agg #[.slice Ao9 RES.1.ops.length co9,.slice Ap9 RES.1.bp.length cp9,.slice Am9 RES.1.bm.length cm9,.slice Aap9 RES.1.ap.length cap9,.slice Aam9 RES.1.am.length cam9],.int .i64 RES.2]) (results_row_tmp Tryz.results20 _ _ _ (w.heap.size + 1 + 1) 36 _ (0,0) _ rfl (HGW.out.row _) rfl Tryz.underlying36 (by kernel_rfl) _ rfl) rfl ?_
    exact RecF.put (arr:=#[]) HREC.out HGW.out (Kept.setRow _ _ _) (size_setRow _ _ _) HWB.out (by omega)
end Go.Proofs.YtbjcioknfjofkaaGreat
