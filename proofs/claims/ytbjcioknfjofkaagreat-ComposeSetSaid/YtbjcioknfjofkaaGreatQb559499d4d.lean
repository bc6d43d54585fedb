/- Texts put together. -/
import Derived.Test.YtbjcioknfjofkaaGreatQ5b00a13be8
import Derived.Test.YtbjcioknfjofkaaGreatQ2131ee688f
import Derived.Test.YtbjcioknfjofkaaGreatQ7f66847242
set_option linter.unusedVariables false
set_option linter.unusedSimpArgs false
set_option maxRecDepth 100000
namespace Go.Proofs.YtbjcioknfjofkaaGreat
open Go.RowKit
theorem BS.c {w0 W:World} {F:Nat→Prop} {B:Nat} {x:Array Value} {ops:List OpD} (h:BS w0 W F B x ops):W.cell? ⟨B,23,none⟩ = some (.slice none 0 0)∧W.cell? ⟨B,24,none⟩ = some (.slice none 0 0)∧W.frozen? ⟨B,23,none⟩ = false∧W.frozen? ⟨B,24,none⟩ = false:=by
 obtain ⟨arr,b,vo,ho,h1,h2,h3,h4,h5,h6,h7,h8,h9⟩:=h.ex
 exact ⟨(ho.cell 23).trans h7,(ho.cell 24).trans h8,ho.free 23,ho.free 24⟩
theorem BS.blt {w0 W:World} {F:Nat→Prop} {B:Nat} {x:Array Value} {ops:List OpD} (h:BS w0 W F B x ops):B < W.heap.size:=by
 obtain ⟨arr,b,vo,ho,_⟩:=h.ex
 exact ho.lt
theorem cb_set {w0 W:World} {F:Nat→Prop} {B:Nat} {x:Array Value} {ops:List OpD} (h:BS w0 W F B x ops) {ap am:List Int} {vp vm:Value} (hp:IntsR W (fun k=>B < k∧k < W.heap.size) ap vp) (hm:IntsR W (fun k=>B < k∧k < W.heap.size) am vm):BA w0 ((W.setCell ⟨B,23,none⟩ vp).setCell ⟨B,24,none⟩ vm) B x ops ap am:=by
 obtain ⟨arr,b,vo,ho,hz,h6,h20,hown,hBb,hb,h23,h24,hF⟩:=h.ex
 have hlo:=h.lo B (hF B (.inl rfl))
 have hk:Kept (fun k=>k = B) W ((W.setCell ⟨B,23,none⟩ vp).setCell ⟨B,24,none⟩ vm):=(Kept.set W ⟨B,23,none⟩ vp).trans' (Kept.set _ ⟨B,24,none⟩ vm)
 refine ⟨h.below.trans (hk.below h.below.size (fun k e=>by rw [e];exact hlo)),hlo,_,vo,vp,vm,(ho.set (i:=23) vp).set (i:=24) vm,by simpa using hz,fun j hj=>?_,?_,?_,?_,keepB hk (hown.rows.keep (fun _ _=>rfl) (fun k hk=>⟨Nat.lt_of_lt_of_le hBb hk.1,hk.2⟩)),keepB hk hp,keepB hk hm⟩
 ·rw [Array.getElem?_setIfInBounds_ne (by omega),Array.getElem?_setIfInBounds_ne (by omega)];exact h6 j hj
 ·rw [Array.getElem?_setIfInBounds_ne (by decide),Array.getElem?_setIfInBounds_ne (by decide)];exact h20
 ·rw [Array.getElem?_setIfInBounds_ne (by decide),Array.getElem?_setIfInBounds_self_of_lt (by omega)]
 ·rw [Array.getElem?_setIfInBounds_self_of_lt (by simp;omega)]
set_option maxHeartbeats 16000000 in
theorem cSet_any (t:Tree) (p m:List Int) (text:ByteArray) (A Ap Am:Option Addr) (cap cp cm:Nat) (w:World) (hv:SliceR treeE w (Lt w.heap.size) t.kids (.slice A t.kids.length cap)) (hok:NodeOk t) (hct:countS t≤900000) (hp:IntsR w (Lt w.heap.size) p (.slice Ap p.length cp)) (hm:IntsR w (Lt w.heap.size) m (.slice Am m.length cm)) (hpl:p.length≤90000) (hml:m.length≤90000) (hx:text.size≤maxLen) :
  Calls Tryz.prog 59 #[.agg #[.int .i64 t.kind,.string t.text,.int .i64 t.cols,.slice A t.kids.length cap],.agg #[.slice Ap p.length cp,.slice Am m.length cm],.string text] w (RecF w (setS t p m text)):=by
 obtain ⟨W0,hW0⟩:∃ W0,((w.alloc (.cells #[.int .i64 t.kind,.string t.text,.int .i64 t.cols,.slice A t.kids.length cap] 24)).alloc (.cells #[.slice Ap p.length cp,.slice Am m.length cm] 33)).alloc (.cells #[.slice none 0 0,.slice none 0 0,.slice none 0 0,.slice none 0 0,.slice none 0 0] 36) = W0:=⟨_,rfl⟩
 have hb0:Below w.heap.size w W0:=by rw [← hW0];exact blAlloc (blAlloc (blA _ _) _) _
 have ho1:HasObj W0 w.heap.size (.cells #[.int .i64 t.kind,.string t.text,.int .i64 t.cols,.slice A t.kids.length cap] 24):=by rw [← hW0];exact ((HasObj.at0 _ _).al _).al _
 have ho2:HasObj W0 (w.heap.size + 1) (.cells #[.slice Ap p.length cp,.slice Am m.length cm] 33):=by rw [← hW0];exact (HasObj.at1 _ _ _).al _
 have HO1:=hid ho1
 have HO2:=hid ho2
 have HO3:Hid (HasObj W0 (w.heap.size + 1 + 1) (.cells #[.slice none 0 0,.slice none 0 0,.slice none 0 0,.slice none 0 0,.slice none 0 0] 36)):=by show HasObj _ _ _;rw [← hW0];exact HasObj.at2 _ _ _ _
 have HB0:=hid hb0
 have CELL:Hid (∀ W,HasObj W w.heap.size (.cells #[.int .i64 t.kind,.string t.text,.int .i64 t.cols,.slice A t.kids.length cap] 24)→HasObj W (w.heap.size + 1) (.cells #[.slice Ap p.length cp,.slice Am m.length cm] 33)→W.cell? ⟨w.heap.size,0,none⟩ = some (.int .i64 t.kind)∧W.cell? ⟨w.heap.size,1,none⟩ = some (.string t.text)∧W.cell? ⟨w.heap.size,2,none⟩ = some (.int .i64 t.cols)∧W.cell? ⟨w.heap.size,3,none⟩ = some (.slice A t.kids.length cap)∧W.cell? ⟨w.heap.size + 1,0,none⟩ = some (.slice Ap p.length cp)∧W.cell? ⟨w.heap.size + 1,1,none⟩ = some (.slice Am m.length cm)):=fun W h1 h2=>⟨h1.cell 0,h1.cell 1,h1.cell 2,h1.cell 3,h2.cell 0,h2.cell 1⟩
 have CL:Hid (∀ W,Below w.heap.size w W→Calls Tryz.prog 37 #[.agg #[.int .i64 t.kind,.string t.text,.int .i64 t.cols,.slice A t.kids.length cap],.agg #[.slice Ap p.length cp,.slice Am m.length cm]] W _):=fun W hW=>look_st t p m A Ap Am cap cp cm W (hv.below hW hW.size) hok hct (hp.below hW hW.size) (hm.below hW hW.size) hpl hml
 have HE:=hid (set_cases t p m text)
 have HIN:=hid (And.intro hok (And.intro (And.intro hp (And.intro hm (And.intro hpl hml))) hx))
 obtain ⟨RES,hRES⟩:∃ RES,setS t p m text = RES:=⟨_,rfl⟩
 rw [hRES] at HE ⊢
 obtain ⟨m0,m1,m2,m3,n0,n1⟩:=CELL.out W0 ho1 ho2
 clear hv hok hct hp hm hpl hml hb0 ho1 ho2 hRES hx
 go_enter Tryz.func59,Tryz.ntmps59
 go_wp2_with fail
 refine (CL.out _ HB0.out).mono ?_
 rintro e w1 ⟨hb1,h1⟩
 have HG:=hid (HO3.out.below hb1)
 have HO1:=hid (HO1.out.below hb1)
 have HO2:=hid (HO2.out.below hb1)
 have HB1:=hid (HB0.out.trans (hb1.mono HB0.out.size))
 clear hb1 m0 m1 m2 m3 n0 n1 CL HB0 hW0 HO3
 rcases h1 with ⟨he,rfl⟩ | ⟨he,rr,Ar,cr,ra,rb,q,A1,o,its,Ai,ci,ar,q2,A2,c2,i,s,it,A3,c3,rfl,hst⟩
 ·have HR:=hid (HE.out.1 he)
  have hse:((ofS t p m).2 != 0) = true:=by simp [he]
  clear HE he
  generalize (ofS t p m).2 = se at *
  go_upto_region 2 with (first
   | (refine wpList_store_row rfl 73 (.tmp 8) (.tmp 16) rfl w1.heap.size _ rfl rfl 73 _ (HasObj.at0 _ _) (by kernel_rfl) (by simp) (by simp [Value.oneCell']) ?_)
   | fail)
  generalize hX:World.setRow _ _ _ = X
  have HBX:Hid (Below w.heap.size w X):=by show Below _ _ _;rw [← hX];exact below_setRowB (HB1.out.trans ((blA w1 _).mono HB1.out.size)) HB1.out.size _
  have HG:Hid (HasObj X (w.heap.size + 1 + 1) (.cells #[.slice none 0 0,.slice none 0 0,.slice none 0 0,.slice none 0 0,.slice none 0 0] 36)):=by show HasObj _ _ _;rw [← hX];exact (setRow_other _ _ _ _ (Nat.ne_of_lt HG.out.lt)).trans (HG.out.al _)
  clear hX
  go_wp2_with (first
   | (refine wpList_store_row rfl 36 (.tmp 6) (.tmp 20) rfl (w.heap.size + 1 + 1) _ rfl rfl 36 _ HG.out (by kernel_rfl) (by simp) (by simp [Value.oneCell']) ?_)
   | fail)
  refine bodyPost_ret (v:=.tuple #[.agg #[.slice none 0 0,.slice none 0 0,.slice none 0 0,.slice none 0 0,.slice none 0 0],.int .i64 se]) (results_row_tmp Tryz.results59 _ _ _ (w.heap.size + 1 + 1) 36 _ (0,0) _ rfl (HG.out.row _) rfl Tryz.underlying36 (by kernel_rfl) _ rfl) rfl ?_
  rw [HR.out]
  exact recF_zero se (below_setRowB HBX.out (by omega) _)
 ·have hof:=hst.of
  have hpe:=hst.pe
  have hie:=hst.ie
  simp only at hof hpe hie
  have HR:=hid (HE.out.2 rr ra rb q o its hof hpe hie)
  simp only [stC]
  clear HE he hof hpe hie
  go_upto_region 2 with (first
   | (refine wpList_store_row rfl 73 (.tmp 8) (.tmp 16) rfl w1.heap.size _ rfl rfl 73 _ (HasObj.at0 _ _) (by kernel_rfl) (by simp) (by simp [Value.oneCell']) ?_)
   | fail)
  generalize hX:World.setRow _ _ _ = X
  have hbx:Below w1.heap.size w1 X:=by rw [← hX];exact below_setRowB (blA w1 _) (Nat.le_refl _) _
  have HSX:Hid (HasObj X w1.heap.size (.cells #[.int .i64 t.kind,.string t.text,.int .i64 t.cols,.slice A t.kids.length cap,.slice Ap p.length cp,.slice Am m.length cm,.slice Ar rr.length cr,.int .i64 ra,.int .i64 rb,.slice A1 q.length cp,.int .i64 o,.slice Ai its.length ci,.bool ar,.slice A2 q2.length c2,.int .i64 i,.int .i64 s,.int .i64 it.kind,.string it.text,.int .i64 it.cols,.slice A3 it.kids.length c3] 73)):=by show HasObj _ _ _;rw [← hX];exact (HasObj.at0 w1 _).row _
  have HGO:=HG
  have HG:=hid (HG.out.below hbx)
  have HO2:=hid (HO2.out.below hbx)
  have HWB:=hid (HB1.out.trans (hbx.mono HB1.out.size))
  have HST:=hid (hst.bl hbx)
  have hf:=st_facts hst
  simp only at hf
  have HF:=hid hf
  have HGS:Hid (w1.heap.size≠w.heap.size + 1 + 1):=fun e=>Nat.lt_irrefl _ (e ▸ HGO.out.lt)
  obtain ⟨gs,hgs⟩:∃ gs,w1.heap.size = gs:=⟨_,rfl⟩
  simp only [hgs] at HSX HGS ⊢
  clear hX hbx hst hgs HB1 hf HO1 HGO
  have s4:X.cell? ⟨gs,10,none⟩ = some (.int .i64 o):=HSX.out.cell 10
  have s5:X.cell? ⟨gs,11,none⟩ = some (.slice Ai its.length ci):=HSX.out.cell 11
  by_cases ho0:o = 0
  ·have HR8:Hid (RES = (recZ,8)):=HR.out.1 ho0
   clear HR
   subst ho0
   go_wp2_with (first
    | (refine wpList_store_row rfl 36 (.tmp 6) (.tmp 25) rfl (w.heap.size + 1 + 1) _ rfl rfl 36 _ HG.out (by kernel_rfl) (by simp) (by simp [Value.oneCell']) ?_)
    | fail)
   refine bodyPost_ret (v:=.tuple #[.agg #[.slice none 0 0,.slice none 0 0,.slice none 0 0,.slice none 0 0,.slice none 0 0],.int .i64 8]) (results_row_tmp Tryz.results59 _ _ _ (w.heap.size + 1 + 1) 36 _ (0,0) _ rfl (HG.out.row _) rfl Tryz.underlying36 (by kernel_rfl) _ rfl) rfl ?_
   rw [HR8.out]
   exact recF_zero 8 (below_setRowB HWB.out (by omega) _)
  obtain ⟨k,rfl⟩:∃ k:Nat,o = (k:Int) + 1:=⟨(o - 1).toNat,by have:=HF.out;omega⟩
  have hk:k < its.length:=by have:=HF.out;omega
  have HR:=hid (HR.out.2 k hk rfl)
  have HBD:=hid (show q.length≤90000∧k≤1000 from by have:=HF.out;exact ⟨by omega,by omega⟩)
  have HQ:=hid HST.out.q
  have HDN:Hid (∀ w0 W B ops pos am,Below X.heap.size X W→BA w0 W B #[.int .i64 t.kind,.string t.text,.int .i64 t.cols,.slice A t.kids.length cap,.slice Ap p.length cp,.slice Am m.length cm,.slice Ar rr.length cr,.int .i64 ra,.int .i64 rb,.slice A1 q.length cp,.int .i64 ((k:Int) + 1),.slice Ai its.length ci,.bool ar,.slice A2 q2.length c2,.int .i64 i,.int .i64 s,.int .i64 it.kind,.string it.text,.int .i64 it.cols,.slice A3 it.kids.length c3] ops pos am→ops.length≤1000→Calls Tryz.prog 43 #[.pointer (some ⟨B,0,none⟩)] W (RecF w0 (doneR t p m ops pos am))):=fun w0 W B ops pos am hW hb hl=>st_done HST.out hW hb hl
  obtain ⟨_,_,rs,hq,hic,him,hrd,hls⟩:=HST.out.its
  cases hq
  obtain ⟨gx,ox,Bx,bx,rs2,rfl,hgx,x0,x1,x2,x3,_,_,hx9,hx5,hx6,hrx,hlx⟩:=trees_at hrd hls hk
  have HX9:=hid hx9
  have i0:(0:Int)≤(k:Int):=by omega
  have i1:(k:Int) < (its.length:Int):=by omega
  have i2:((k:Int) + 1 == 0) = false:=by rw [beq_eq_false_iff_ne];omega
  have v1:IntKind.i64.wrap ((k:Int) + 1 - 1) = (k:Int):=by rw [show (k:Int) + 1 - 1 = (k:Int) by omega];exact IntWalk.i64_in _ (by have:=HBD.out;omega)
  have v2:IntKind.i64.wrap (k:Int) = (k:Int):=IntWalk.i64_in _ (by have:=HBD.out;omega)
  clear hrd hls hrx hlx hx5 hx6 HF HST hx9 hgx
  generalize its[k] = it9 at *
  obtain ⟨k9,x9,c9,l9⟩:=it9
  simp only [Tree.kind,Tree.text,Tree.cols,Tree.kids] at HR x0 x1 x2 x3 HX9
  go_upto_region 7 with fail
  generalize hY:World.alloc X _ = Y
  have hby:Below X.heap.size X Y:=by rw [← hY];exact blA _ _
  have hit:HasObj Y X.heap.size (.cells #[.int .i64 k9,.string x9,.int .i64 c9,.slice Bx l9.length bx] 24):=by rw [← hY];exact HasObj.at0 _ _
  have HIX:=hid hit
  have HYX:=hid hby
  have HGX:=HG
  have HG:=hid (HG.out.below hby)
  have HO2:=hid (HO2.out.below hby)
  have HSX:=hid (HSX.out.below hby)
  have HNE:Hid (gs≠w.heap.size + 1 + 1):=HGS
  have HNI:Hid (X.heap.size≠w.heap.size + 1 + 1):=fun e=>Nat.lt_irrefl _ (e ▸ HGX.out.lt)
  obtain ⟨gi,hgi⟩:∃ gi,X.heap.size = gi:=⟨_,rfl⟩
  have y0:Y.cell? ⟨gi,0,none⟩ = some (.int .i64 k9):=by rw [← hgi];exact hit.cell 0
  have y1:Y.cell? ⟨gi,1,none⟩ = some (.string x9):=by rw [← hgi];exact hit.cell 1
  simp only [hgi] at HIX HNI ⊢
  clear hY hby hit s4 s5 x0 x1 x2 x3 i0 i1 i2
  by_cases hkk:textKind k9 = true
  rotate_left
  ·have HR:=hid (HR.out.2 (fun h=>hkk h.1))
   have hno:k9≠2∧k9≠3∧k9≠4∧k9≠10∧k9≠11:=by
    unfold textKind at hkk
    simp only [decide_eq_true_eq] at hkk
    omega
   obtain ⟨h2,h3,h4,h10,h11⟩:=hno
   have b2:(k9 == 2) = false:=by rw [beq_eq_false_iff_ne];exact h2
   have b3:(k9 == 3) = false:=by rw [beq_eq_false_iff_ne];exact h3
   have b4:(k9 == 4) = false:=by rw [beq_eq_false_iff_ne];exact h4
   have b10:(k9 == 10) = false:=by rw [beq_eq_false_iff_ne];exact h10
   have b11:(k9 == 11) = false:=by rw [beq_eq_false_iff_ne];exact h11
   have HWY:=hid (HWB.out.trans (HYX.out.mono HWB.out.size))
   clear hkk h2 h3 h4 h10 h11
   go_wp2_with (first
    | (refine wpList_store_row rfl 36 (.tmp 6) (.tmp 35) rfl (w.heap.size + 1 + 1) _ rfl rfl 36 _ HG.out (by kernel_rfl) (by simp) (by simp [Value.oneCell']) ?_)
    | fail)
   refine bodyPost_ret (v:=.tuple #[.agg #[.slice none 0 0,.slice none 0 0,.slice none 0 0,.slice none 0 0,.slice none 0 0],.int .i64 7]) (results_row_tmp Tryz.results59 _ _ _ (w.heap.size + 1 + 1) 36 _ (0,0) _ rfl (HG.out.row _) rfl Tryz.underlying36 (by kernel_rfl) _ rfl) rfl ?_
   rw [HR.out]
   exact recF_zero 7 (below_setRowB HWY.out (by omega) _)
  have hall:k9 = 2∨k9 = 3∨k9 = 4∨k9 = 10∨k9 = 11:=by unfold textKind at hkk;simpa using hkk
  have HKK:=hid hkk
  clear hkk
  obtain ⟨bt,hbt⟩:∃ bt,(x9.toList == text.toList) = bt:=⟨_,rfl⟩
  cases bt
  case true =>
   have he:x9 = text:=toList_inj.1 (by simpa using hbt)
   have HR7:Hid (RES = (recZ,7)):=HR.out.2 (fun h=>h.2 he)
   have HWY:=hid (HWB.out.trans (HYX.out.mono HWB.out.size))
   clear he HKK HR
   rcases hall with rfl | rfl | rfl | rfl | rfl
   all_goals
    go_wp2_with (first
     | (refine wpList_store_row rfl 36 (.tmp 6) (.tmp 46) rfl (w.heap.size + 1 + 1) _ rfl rfl 36 _ HG.out (by kernel_rfl) (by simp) (by simp [Value.oneCell']) ?_)
     | fail)
    refine bodyPost_ret (v:=.tuple #[.agg #[.slice none 0 0,.slice none 0 0,.slice none 0 0,.slice none 0 0,.slice none 0 0],.int .i64 7]) (results_row_tmp Tryz.results59 _ _ _ (w.heap.size + 1 + 1) 36 _ (0,0) _ rfl (HG.out.row _) rfl Tryz.underlying36 (by kernel_rfl) _ rfl) rfl ?_
    rw [HR7.out]
    exact recF_zero 7 (below_setRowB HWY.out (by omega) _)
  have hne:¬ x9 = text:=fun e=>by rw [e] at hbt;simp at hbt
  have HRF:Hid (RES = doneR t p m [setOp q (k:Int) x9 text] p m):=HR.out.1 ⟨HKK.out,hne⟩
  clear hne HR HKK
  rcases hall with rfl | rfl | rfl | rfl | rfl
  all_goals
   go_upto_region 16 with fail
   clear hbt y0 y1
   have HW:Hid (Below X.heap.size X Y):=HYX
   have hky:Kept (fun k=>k = w.heap.size + 1 + 1) Y Y:=Kept.of_below (Below.refl _ _) _
   refine wp_region_noPanic ?_
   refine wp_region_held_drew (S:=fun w'=>Kept (fun k=>k = w.heap.size + 1 + 1) Y w') (by kernel_rfl) (Kept.of_below (Below.refl Y.heap.size Y).drew _) (fun hHeld=>?_)
   refine wpAnyH_take (i:=0) (oi:=⟨some 47,_,_,_,_,_⟩) (v:=_) rfl (by kernel_rfl) (by kernel_rfl) (by kernel_rfl) (fun _ _ _ h=>h) (yif_row 73 (.tmp 8) rfl (by rfl) _ rfl (fun w hS=>hS.obj HSX.out HNE.out) Tryz.underlying73 (by kernel_rfl)) hHeld ?_
   try simp only [Act.put,List.setIfInBounds_toArray,List.set_cons_zero,List.set_cons_succ]
   refine wpAnyH_take (i:=2) (oi:=⟨some 49,_,_,_,_,_⟩) (v:=_) rfl (by kernel_rfl) (by kernel_rfl) (by kernel_rfl) (fun _ _ _ h=>h) (Or.inl ⟨by rfl,fun W hS=>by clear hS;go_simp;try with_reducible rfl⟩) hHeld ?_
   try simp only [Act.put,List.setIfInBounds_toArray,List.set_cons_zero,List.set_cons_succ]
   refine wpAnyH_take (i:=3) (oi:=⟨some 50,_,_,_,_,_⟩) (v:=_) rfl (by kernel_rfl) (by kernel_rfl) (by kernel_rfl) (fun _ _ _ h=>h) (Or.inl ⟨by rfl,fun W hS=>by have h:W.cell? ⟨gs,9,none⟩ = some (.slice A1 q.length cp):=(hS.obj HSX.out HNE.out).cell 9;clear hS;go_simp;try with_reducible rfl⟩) hHeld ?_
   try simp only [Act.put,List.setIfInBounds_toArray,List.set_cons_zero,List.set_cons_succ]
   refine wpAnyH_take (i:=4) (oi:=⟨some 51,_,_,_,_,_⟩) (v:=_) rfl (by kernel_rfl) (by kernel_rfl) (by kernel_rfl) (fun _ _ _ h=>h) (Or.inl ⟨by rfl,fun W hS=>by clear hS;go_simp;try with_reducible rfl⟩) hHeld ?_
   try simp only [Act.put,List.setIfInBounds_toArray,List.set_cons_zero,List.set_cons_succ]
   refine wpAnyH_take (i:=5) (oi:=⟨some 52,_,_,_,_,_⟩) (v:=_) rfl (by kernel_rfl) (by kernel_rfl) (by kernel_rfl) (fun _ _ _ h=>h) (Or.inl ⟨by rfl,fun W hS=>by have h:W.cell? ⟨gs,10,none⟩ = some (.int .i64 ((k:Int) + 1)):=(hS.obj HSX.out HNE.out).cell 10;clear hS;go_simp;try with_reducible rfl⟩) hHeld ?_
   try simp only [Act.put,List.setIfInBounds_toArray,List.set_cons_zero,List.set_cons_succ]
   refine wpAnyH_take (i:=6) (oi:=⟨some 53,_,_,_,_,_⟩) (v:=_) rfl (by kernel_rfl) (by kernel_rfl) (by kernel_rfl) (fun _ _ _ h=>h) (Or.inl ⟨by rfl,fun W hS=>by clear hS;go_simp;try with_reducible rfl⟩) hHeld ?_
   try simp only [Act.put,List.setIfInBounds_toArray,List.set_cons_zero,List.set_cons_succ]
   refine wpAnyH_take (i:=7) (oi:=⟨some 54,_,_,_,_,_⟩) (v:=_) rfl (by kernel_rfl) (by kernel_rfl) (by kernel_rfl) (fun _ _ _ h=>h) (Or.inl ⟨by rfl,fun W hS=>by clear hS;go_simp;try with_reducible rfl⟩) hHeld ?_
   try simp only [Act.put,List.setIfInBounds_toArray,List.set_cons_zero,List.set_cons_succ]
   refine wpAnyH_take (i:=8) (oi:=⟨some 55,_,_,_,_,_⟩) (v:=_) rfl (by kernel_rfl) (by kernel_rfl) (by kernel_rfl) (fun _ _ _ h=>h) (Or.inl ⟨by rfl,fun W hS=>by have h:W.cell? ⟨gi,1,none⟩ = some (.string x9):=(hS.obj HIX.out HNI.out).cell 1;clear hS;go_simp;try with_reducible rfl⟩) hHeld ?_
   try simp only [Act.put,List.setIfInBounds_toArray,List.set_cons_zero,List.set_cons_succ]
   refine wpAnyH_take (i:=9) (oi:=⟨some 56,_,_,_,_,_⟩) (v:=_) rfl (by kernel_rfl) (by kernel_rfl) (by kernel_rfl) (fun _ _ _ h=>h) (Or.inl ⟨by rfl,fun W hS=>by clear hS;go_simp;try with_reducible rfl⟩) hHeld ?_
   try simp only [Act.put,List.setIfInBounds_toArray,List.set_cons_zero,List.set_cons_succ]
   refine wpAnyH_take (i:=10) (oi:=⟨some 57,_,_,_,_,_⟩) (v:=_) rfl (by kernel_rfl) (by kernel_rfl) (by kernel_rfl) (fun _ _ _ h=>h) (Or.inl ⟨by rfl,fun W hS=>by clear hS;go_simp;try with_reducible rfl⟩) hHeld ?_
   try simp only [Act.put,List.setIfInBounds_toArray,List.set_cons_zero,List.set_cons_succ]
   refine wpAnyH_ready (rs:=[1]) (by kernel_rfl) (by simp) ?_
   refine (AllReadyH.cons (o:=⟨some 48,_,_,_,_,_⟩) rfl (fun K hK=>?_) AllReadyH.nil)
   go_simp
   refine Calls.mono (cb_build _ _ _ _ _ _ _ _ _ _ _ _ _ _ _ _ _ _ _ _ Y _ (bwt (Below.refl Y.heap.size Y))) ?_
   rintro e wk ⟨B,F,rfl,hbs,_⟩
   have HB:=hid hbs
   have HWW:=hid hbs.below
   clear hbs
   refine hK.out _ _ ((Kept.of_below HWW.out _)) (fun hHeld=>?_)
   clear hK K
   try simp only [Act.put,List.setIfInBounds_toArray,List.set_cons_zero,List.set_cons_succ]
   refine wpAnyH_ready (rs:=[11]) (by kernel_rfl) (by simp) ?_
   refine (AllReadyH.cons (o:=⟨some 58,_,_,_,_,_⟩) rfl (fun K hK=>?_) AllReadyH.nil)
   go_simp
   refine Calls.mono (cb_op (HB.out.bl bw) (setOp q (k:Int) x9 text) A1 none cp 0 (by simp) (HQ.out.below (HYX.out.trans (HWW.out.mono HYX.out.size)) (HYX.out.trans (HWW.out.mono HYX.out.size)).size) (SliceR.nil_ 0 (Nat.zero_le _) none) (Nat.le_trans HBD.out.1 (by decide)) (by simp [setOp,countsS]) (by simp [setOp,In64]) (in64_small (by have:=HBD.out;simp only [setOp];omega)) (by simp [setOp,In64]) (by simp [setOp,In64]) HX9.out HIN.out.2.2) ?_
   rintro e wk ⟨F2,rfl,hbs,_⟩
   have HB:Hid (BS Y wk F2 B _ [setOp q (k:Int) x9 text]):=hid hbs
   have HWW:=hid hbs.below
   clear hbs
   refine hK.out _ _ ((Kept.of_below HWW.out _)) (fun hHeld=>?_)
   clear hK K
   try simp only [Act.put,List.setIfInBounds_toArray,List.set_cons_zero,List.set_cons_succ]
   refine wpAnyH_take (i:=12) (oi:=⟨some 11,_,_,_,_,_⟩) (v:=_) rfl (by kernel_rfl) (by kernel_rfl) (by kernel_rfl) (fun _ _ _ h=>h) (Or.inl ⟨by rfl,fun W hS=>by clear hS;go_simp;try with_reducible rfl⟩) hHeld ?_
   try simp only [Act.put,List.setIfInBounds_toArray,List.set_cons_zero,List.set_cons_succ]
   refine wpAnyH_done (by kernel_rfl) ?_ _
   refine NoPanic.normal ?_
   have hw2:Below X.heap.size X wk:=HYX.out.trans (HWW.out.mono HYX.out.size)
   have ho2:=HO2.out.below HWW.out
   have hB9:=HB.out.blt
   have CDC:=hid (deepCur_any p m Ap Am cp cm wk (HIN.out.2.1.1.below (HWB.out.trans (hw2.mono HWB.out.size)) (HWB.out.trans (hw2.mono HWB.out.size)).size) (HIN.out.2.1.2.1.below (HWB.out.trans (hw2.mono HWB.out.size)) (HWB.out.trans (hw2.mono HWB.out.size)).size) (Nat.le_trans HIN.out.2.1.2.2.1 (by decide)) (Nat.le_trans HIN.out.2.1.2.2.2 (by decide)))
   have n0:=ho2.cell 0
   have n1:=ho2.cell 1
   simp only [List.getElem?_toArray,List.getElem?_cons_zero,List.getElem?_cons_succ] at n0 n1
   clear ho2
   go_wp2_with fail
   refine CDC.out.mono ?_
   rintro e wd ⟨Ap5,cp5,Am5,cm5,rfl,hp5,hm5,hbd⟩
   have HB:=hid (HB.out.bl hbd)
   have hBlt:B < wk.heap.size:=hB9
   have HP5:Hid (IntsR wd (fun k=>B < k∧k < wd.heap.size) p (.slice Ap5 p.length cp5)):=hp5.keep (fun _ _=>rfl) (fun k hk=>⟨Nat.lt_of_lt_of_le hBlt hk.1,hk.2⟩)
   have HM5:Hid (IntsR wd (fun k=>B < k∧k < wd.heap.size) m (.slice Am5 m.length cm5)):=hm5.keep (fun _ _=>rfl) (fun k hk=>⟨Nat.lt_of_lt_of_le hBlt hk.1,hk.2⟩)
   have hbc:=HB.out.c
   obtain ⟨q23,q24,f23,f24⟩:=hbc
   have HBA:=hid (cb_set HB.out HP5.out HM5.out)
   clear hp5 hm5 hbd n0 n1 hBlt CDC
   go_upto_region 18 with fail
   generalize hZ:World.setCell _ _ _ = Z
   rw [hZ] at HBA
   clear q23 q24 f23 f24
   go_wp2_with (first
    | (go_at_call 43;refine Calls.mono (HDN.out _ _ _ _ _ _ (HYX.out.trans (HBA.out.below.mono HYX.out.size)) HBA.out (by simp)) ?_;rintro e wz hrec;rw [← HRF.out] at hrec;have HREC:=hid hrec;obtain ⟨Ao9,co9,Ap9,cp9,Am9,cm9,Aap9,cap9,Aam9,cam9,rfl,_,_,_,_,_,hbw⟩:=hrec;have HGW:=hid (HG.out.below hbw);clear hbw)
    | (refine wpList_store_row rfl 36 (.tmp 6) (.tmp 67) rfl (w.heap.size + 1 + 1) #[.slice Ao9 RES.1.ops.length co9,.slice Ap9 RES.1.bp.length cp9,.slice Am9 RES.1.bm.length cm9,.slice Aap9 RES.1.ap.length cap9,.slice Aam9 RES.1.am.length cam9] rfl rfl 36 _ HGW.out (by kernel_rfl) (by simp) (by simp [Value.oneCell']) ?_)
    | fail)
   have HWY:=hid (HWB.out.trans (HYX.out.mono HWB.out.size))
   refine bodyPost_ret (v:=.tuple #[.agg #[.slice Ao9 RES.1.ops.length co9,.slice Ap9 RES.1.bp.length cp9,.slice Am9 RES.1.bm.length cm9,.slice Aap9 RES.1.ap.length cap9,.slice Aam9 RES.1.am.length cam9],.int .i64 RES.2]) (results_row_tmp Tryz.results59 _ _ _ (w.heap.size + 1 + 1) 36 _ (0,0) _ rfl (HGW.out.row _) rfl Tryz.underlying36 (by kernel_rfl) _ rfl) rfl ?_
   exact RecF.put (arr:=#[]) HREC.out HGW.out (Kept.setRow _ _ _) (size_setRow _ _ _) HWY.out (by omega)
end Go.Proofs.YtbjcioknfjofkaaGreat
