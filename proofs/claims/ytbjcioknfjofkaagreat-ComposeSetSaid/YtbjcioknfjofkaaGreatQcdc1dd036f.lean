/- Texts put together. -/
import Derived.Test.YtbjcioknfjofkaaGreatQ6aff26c72d
import Derived.Test.YtbjcioknfjofkaaGreatQ2131ee688f
import Derived.Test.YtbjcioknfjofkaaGreatQdf0df134fe
set_option linter.unusedVariables false
set_option linter.unusedSimpArgs false
set_option maxRecDepth 100000
namespace Go.Proofs.YtbjcioknfjofkaaGreat
open Go.RowKit
theorem item_ok {w:World} {S:Nat→Prop} {t:Tree} {q:List Int} {k:Nat} {v:Value} (hv:SliceR treeE w S t.kids v) (hvt:validS t = true) (hf:(findS t q).2 = true) (hk:k < (findS t q).1.kids.length):NodeOk (itemRes t q (k:Int)).1:=by
 have e:(itemRes t q (k:Int)).1 = (findS t q).1.kids[k]:=by
  unfold itemRes
  rw [rowRes_ok hvt hf,if_neg (by simp),if_neg (by simp only;omega)]
  simp [itemD,hk]
 obtain ⟨v1,hv1⟩:=find_reads q t hf ⟨v,hv⟩
 rw [e]
 exact sl_ok hv1 hk
theorem sl_nil {α:Type} {E:Enc α} {w w':World} {S S':Nat→Prop} {v:Value} (h:SliceR E w S [] v):SliceR E w' S' [] v:=by
 obtain ⟨A,cap,cs,rfl,h1,h2,h3,h4⟩:=h
 obtain rfl:cs = []:=h4
 exact ⟨A,cap,[],rfl,h1,h2,fun h=>absurd h (by simp),rfl⟩
theorem setr_cases (t:Tree) (p m:List Int) (text:ByteArray):((ofS t p m).2≠0→setS t p m text = (recZ,(ofS t p m).2))∧(∀ rr ra rb q o,ofS t p m = ((rr,ra,rb),0)→p = q ++ [o]→(o = 0→setS t p m text = (recZ,8))∧(∀ k:Nat,o = (k:Int) + 1→(((applyS t (setOp q (k:Int) (itemRes t q (k:Int)).1.text text)).2 = 4∨(applyS t (setOp q (k:Int) (itemRes t q (k:Int)).1.text text)).2 = 7)→setS t p m text = (recZ,7))∧(¬ ((applyS t (setOp q (k:Int) (itemRes t q (k:Int)).1.text text)).2 = 4∨(applyS t (setOp q (k:Int) (itemRes t q (k:Int)).1.text text)).2 = 7)→setS t p m text = if (applyAllS t [setOp q (k:Int) (itemRes t q (k:Int)).1.text text]).2 = 0 then (⟨[setOp q (k:Int) (itemRes t q (k:Int)).1.text text],p,m,p,m⟩,0) else (recZ,6)))):=by
 refine ⟨fun h=>by unfold setS;rw [if_pos h],fun rr ra rb q o h hpe=>⟨fun h0=>?_,fun k ho=>?_⟩⟩
 ·unfold setS
  rw [h,if_neg (by simp),if_pos (by rw [hpe,h0];simp)]
 ·have e1:p.dropLast = q:=by rw [hpe];simp
  have e2:p.getLastD 0 = o:=by rw [hpe];simp
  have e4:o - 1 = (k:Int):=by omega
  have hS:setS t p m text = if (applyS t (setOp q (k:Int) (itemRes t q (k:Int)).1.text text)).2 = 4∨(applyS t (setOp q (k:Int) (itemRes t q (k:Int)).1.text text)).2 = 7 then (recZ,7) else if (applyAllS t [setOp q (k:Int) (itemRes t q (k:Int)).1.text text]).2 = 0 then (⟨[setOp q (k:Int) (itemRes t q (k:Int)).1.text text],p,m,p,m⟩,0) else (recZ,6):=by
   unfold setS
   rw [h,if_neg (by simp),e1,e2,if_neg (by omega),e4]
  exact ⟨fun hc=>by rw [hS,if_pos hc],fun hc=>by rw [hS,if_neg hc]⟩
set_option maxHeartbeats 16000000 in
theorem r14Set_any (t:Tree) (p m:List Int) (text:ByteArray) (A Ap Am:Option Addr) (cap cp cm:Nat) (w:World) (hv:SliceR treeE w (Lt w.heap.size) t.kids (.slice A t.kids.length cap)) (hok:NodeOk t) (hct:countS t≤900000) (hp:IntsR w (Lt w.heap.size) p (.slice Ap p.length cp)) (hm:IntsR w (Lt w.heap.size) m (.slice Am m.length cm)) (hpl:p.length≤90000) (hml:m.length≤90000) (hx:text.size≤maxLen) :
  Calls Tryz.prog 98 #[.agg #[.int .i64 t.kind,.string t.text,.int .i64 t.cols,.slice A t.kids.length cap],.agg #[.slice Ap p.length cp,.slice Am m.length cm],.string text] w (RecB w (setS t p m text)):=by
 obtain ⟨W0,hW0⟩:∃ W0,((w.alloc (.cells #[.int .i64 t.kind,.string t.text,.int .i64 t.cols,.slice A t.kids.length cap] 24)).alloc (.cells #[.slice Ap p.length cp,.slice Am m.length cm] 33)).alloc (.cells #[.slice none 0 0,.slice none 0 0,.slice none 0 0,.slice none 0 0,.slice none 0 0] 36) = W0:=⟨_,rfl⟩
 have hb0:Below w.heap.size w W0:=by rw [← hW0];exact blAlloc (blAlloc (blA _ _) _) _
 have ho1:HasObj W0 w.heap.size (.cells #[.int .i64 t.kind,.string t.text,.int .i64 t.cols,.slice A t.kids.length cap] 24):=by rw [← hW0];exact ((HasObj.at0 _ _).al _).al _
 have ho2:HasObj W0 (w.heap.size + 1) (.cells #[.slice Ap p.length cp,.slice Am m.length cm] 33):=by rw [← hW0];exact (HasObj.at1 _ _ _).al _
 have HO1:=hid ho1
 have HO2:=hid ho2
 have HO3:Hid (HasObj W0 (w.heap.size + 1 + 1) (.cells #[.slice none 0 0,.slice none 0 0,.slice none 0 0,.slice none 0 0,.slice none 0 0] 36)):=by show HasObj _ _ _;rw [← hW0];exact HasObj.at2 _ _ _ _
 have HB0:=hid hb0
 have CELL:Hid (∀ W,HasObj W w.heap.size (.cells #[.int .i64 t.kind,.string t.text,.int .i64 t.cols,.slice A t.kids.length cap] 24)→HasObj W (w.heap.size + 1) (.cells #[.slice Ap p.length cp,.slice Am m.length cm] 33)→W.cell? ⟨w.heap.size,0,none⟩ = some (.int .i64 t.kind)∧W.cell? ⟨w.heap.size,1,none⟩ = some (.string t.text)∧W.cell? ⟨w.heap.size,2,none⟩ = some (.int .i64 t.cols)∧W.cell? ⟨w.heap.size,3,none⟩ = some (.slice A t.kids.length cap)∧W.cell? ⟨w.heap.size + 1,0,none⟩ = some (.slice Ap p.length cp)∧W.cell? ⟨w.heap.size + 1,1,none⟩ = some (.slice Am m.length cm)):=fun W h1 h2=>⟨h1.cell 0,h1.cell 1,h1.cell 2,h1.cell 3,h2.cell 0,h2.cell 1⟩
 have CC:Hid (∀ W,Below w.heap.size w W→Calls Tryz.prog 136 #[.agg #[.int .i64 t.kind,.string t.text,.int .i64 t.cols,.slice A t.kids.length cap],.agg #[.slice Ap p.length cp,.slice Am m.length cm]] W (BetV W (ofS t p m))):=fun W hW=>r14check_any t p m A Ap Am cap cp cm W (hv.below hW hW.size) hok.2.2 hct (hp.below hW hW.size) (hm.below hW hW.size)
 have HE:=hid (setr_cases t p m text)
 have HIN:=hid (And.intro hv (And.intro hok (And.intro hct (And.intro hp (And.intro hm (And.intro hpl hml))))))
 have HTX:=hid hx
 obtain ⟨RES,hRES⟩:∃ RES,setS t p m text = RES:=⟨_,rfl⟩
 rw [hRES] at HE ⊢
 obtain ⟨m0,m1,m2,m3,n0,n1⟩:=CELL.out W0 ho1 ho2
 clear hv hok hct hp hm hpl hml hb0 ho1 ho2 hRES hx
 go_enter Tryz.func98,Tryz.ntmps98
 go_wp2_with fail
 obtain ⟨⟨⟨rr,ra,rb⟩,se⟩,hof⟩:∃ OF,ofS t p m = OF:=⟨_,rfl⟩
 have HOF:=hid hof
 rw [hof] at CC HE
 refine (CC.out _ HB0.out).mono ?_
 rintro e w1 ⟨v1,rfl,hr1,hb1⟩
 simp only at hr1
 obtain ⟨Ar,cr,rfl⟩:=hr1.form
 have HB1:=hid (HB0.out.trans (hb1.mono HB0.out.size))
 have HO1:=hid (HO1.out.below hb1)
 have HO2:=hid (HO2.out.below hb1)
 have HG:=hid (HO3.out.below hb1)
 clear hb1 m0 m1 m2 m3 n0 n1 CC hof HB0 hr1 HO3 hW0
 go_upto_region 2 with (first
  | (refine wpList_store_row rfl 46 (.tmp 8) (.tmp 20) rfl w1.heap.size _ rfl rfl 46 _ (HasObj.at0 _ _) (by kernel_rfl) (by simp) (by simp [Value.oneCell']) ?_)
  | fail)
 generalize hX:World.setRow _ _ _ = X
 have hbx:Below w1.heap.size w1 X:=by rw [← hX];exact below_setRowB (blA w1 _) (Nat.le_refl _) _
 have HO1:=hid (HO1.out.below hbx)
 have HO2:=hid (HO2.out.below hbx)
 have HG:=hid (HG.out.below hbx)
 have HWB:=hid (HB1.out.trans (hbx.mono HB1.out.size))
 clear hX hbx HB1
 by_cases hse:se = 0
 rotate_left
 ·have hse':(se != 0) = true:=by simp [hse]
  have HR:=hid (HE.out.1 hse)
  clear HE hse
  go_wp2_with (first
   | (refine wpList_store_row rfl 36 (.tmp 6) (.tmp 24) rfl (w.heap.size + 1 + 1) _ rfl rfl 36 _ HG.out (by kernel_rfl) (by simp) (by simp [Value.oneCell']) ?_)
   | fail)
  refine bodyPost_ret (v:=.tuple #[.agg #[.slice none 0 0,.slice none 0 0,.slice none 0 0,.slice none 0 0,.slice none 0 0],.int .i64 se]) (results_row_tmp Tryz.results98 _ _ _ (w.heap.size + 1 + 1) 36 _ (0,0) _ rfl (HG.out.row _) rfl Tryz.underlying36 (by kernel_rfl) _ rfl) rfl ?_
  rw [HR.out]
  exact rec_zero se (below_setRowB HWB.out (by omega) _)
 subst hse
 have hF:=of_facts HOF.out HIN.out.2.2.2.2.2.1 HIN.out.2.2.2.2.2.2
 obtain ⟨hvt,hpin,_,_⟩:=of_ok (t:=t) (p:=p) (m:=m) (by rw [HOF.out])
 obtain ⟨q,o,hpe⟩:∃ q o,p = q ++ [o]:=by
  have h1:=posIn_odd _ _ hpin
  exact ⟨p.dropLast,p.getLast (by intro e;subst e;simp at h1),(List.dropLast_concat_getLast _).symm⟩
 have hpos:=hpin
 rw [hpe] at hpos
 obtain ⟨hf,ho0,hol⟩:=pos_last hpos
 have hcq:=find_count t q
 have hkc:=kids_le_count (findS t q).1
 have hvc:=(valid_count hvt).1
 have hln:p.length = q.length + 1:=by rw [hpe];simp
 have HR:=hid (HE.out.2 rr ra rb q o rfl hpe)
 obtain ⟨n,hn⟩:∃ n,q.length = n:=⟨_,rfl⟩
 obtain ⟨gp,op,rfl,hgp,hcp⟩:=ints_cells (HIN.out.2.2.2.1) (by omega)
 have hgp:gp < w.heap.size:=hgp
 have hcc:p.length≤cp:=by obtain ⟨_,_,_,hq,h1,_⟩:=HIN.out.2.2.2.1;cases hq;exact h1
 obtain ⟨A1,hs1,hc1⟩:=cut_h intE Tryz.underlying31 size_int (some ⟨gp,op,none⟩) p.length cp (n:Int) n rfl (by omega) hcc
 have HQ:Hid (∀ W,Below w.heap.size w W→IntsR W (Lt W.heap.size) q (.slice A1 n cp)):=fun W hW=>by
  have h9:=hc1 W (Lt W.heap.size) p (HIN.out.2.2.2.1.below hW hW.size)
  rwa [show p.take n = q by rw [hpe,← hn];simp] at h9
 have KP:Hid (∀ W,Below w.heap.size w W→W.cell? ⟨gp,op + n,none⟩ = some (.int .i64 o)):=fun W hW=>((hW.cell (p:=⟨gp,_,none⟩) hgp).trans (hcp n (by omega))).trans (by simp [hpe,← hn])
 have v3:IntKind.i64.wrap ((p.length:Int) - 1) = (n:Int):=by rw [show (p.length:Int) - 1 = (n:Int) by omega];exact IntWalk.i64_in _ (by have:=HIN.out.2.2.2.2.2.1;omega)
 have j0:(0:Int)≤(n:Int):=by omega
 have j1:(n:Int) < (p.length:Int):=by omega
 have HFF:=hid (show o≤1000∧0≤o∧n≤90000 from ⟨by omega,by omega,by have:=HIN.out.2.2.2.2.2.1;omega⟩)
 have HNK:Hid (∀ k:Nat,o = (k:Int) + 1→NodeOk (itemRes t q (k:Int)).1):=fun k hk=>item_ok HIN.out.1 hvt hf (by omega)
 have HQL:=hid hn
 have k0:=KP.out X HWB.out
 obtain ⟨m0,m1,m2,m3,n0,n1⟩:=CELL.out X HO1.out HO2.out
 clear HE hF hvt hpin hpe hpos hf ho0 hol hcq hkc hvc hln hn hgp hcp hcc hc1
 go_upto_region 4 with fail
 go_quiet (fail)
 have HWB:Hid (Below w.heap.size w (X.drewN nq)):=hid (bl_dnC HWB.out)
 have HO1:Hid (HasObj (X.drewN nq) w.heap.size (.cells #[.int .i64 t.kind,.string t.text,.int .i64 t.cols,.slice A t.kids.length cap] 24)):=hid HO1.out
 have HO2:Hid (HasObj (X.drewN nq) (w.heap.size + 1) (.cells #[.slice (some ⟨gp,op,none⟩) p.length cp,.slice Am m.length cm] 33)):=hid HO2.out
 have HG:Hid (HasObj (X.drewN nq) (w.heap.size + 1 + 1) (.cells #[.slice none 0 0,.slice none 0 0,.slice none 0 0,.slice none 0 0,.slice none 0 0] 36)):=hid HG.out
 clear k0 m0 m1 m2 m3 n0 n1 hs1 v3 j0 j1 KP
 generalize X.drewN nq = V at *
 by_cases ho:o = 0
 ·have HR8:Hid (RES = (recZ,8)):=HR.out.1 ho
  clear HR
  subst ho
  go_wp2_with (first
   | (refine wpList_store_row rfl 36 (.tmp 6) (.tmp 43) rfl (w.heap.size + 1 + 1) _ rfl rfl 36 _ HG.out (by kernel_rfl) (by simp) (by simp [Value.oneCell']) ?_)
   | fail)
  refine bodyPost_ret (v:=.tuple #[.agg #[.slice none 0 0,.slice none 0 0,.slice none 0 0,.slice none 0 0,.slice none 0 0],.int .i64 8]) (results_row_tmp Tryz.results98 _ _ _ (w.heap.size + 1 + 1) 36 _ (0,0) _ rfl (HG.out.row _) rfl Tryz.underlying36 (by kernel_rfl) _ rfl) rfl ?_
  rw [HR8.out]
  exact rec_zero 8 (below_setRowB HWB.out (by omega) _)
 obtain ⟨k,rfl⟩:∃ k:Nat,o = (k:Int) + 1:=⟨(o - 1).toNat,by have:=HFF.out;omega⟩
 have HR:=hid (HR.out.2 k rfl)
 have hno:=HNK.out k rfl
 have v1:IntKind.i64.wrap ((k:Int) + 1 - 1) = (k:Int):=by rw [show (k:Int) + 1 - 1 = (k:Int) by omega];exact IntWalk.i64_in _ (by have:=HFF.out;omega)
 have v2:IntKind.i64.wrap (k:Int) = (k:Int):=IntWalk.i64_in _ (by have:=HFF.out;omega)
 have i2:((k:Int) + 1 == 0) = false:=by rw [beq_eq_false_iff_ne];omega
 obtain ⟨IR,hIR⟩:∃ IR,itemRes t q (k:Int) = IR:=⟨_,rfl⟩
 have CI:Hid (∀ W,Below w.heap.size w W→Calls Tryz.prog 146 #[.agg #[.int .i64 t.kind,.string t.text,.int .i64 t.cols,.slice A t.kids.length cap],.slice A1 n cp,.int .i64 (k:Int)] W (RowP (Lt W.heap.size) W IR.1.kind IR.1.text IR.1.cols IR.1.kids IR.2)):=fun W hW=>by
  have h9:=rItem_any t q (k:Int) A A1 cap cp W (Lt W.heap.size) (fun k hk=>hk) (HIN.out.1.below hW hW.size) HIN.out.2.1.2.2 HIN.out.2.2.1 (by rw [HQL.out];exact HQ.out W hW)
  rwa [HQL.out,hIR] at h9
 rw [hIR] at HR hno
 have HNO:=hid hno
 obtain ⟨x9,ex⟩:=IR
 simp only at HR CI
 obtain ⟨xt,hxt⟩:∃ xt,x9.text = xt:=⟨_,rfl⟩
 rw [hxt] at HR CI
 have HXT:Hid (xt.size≤maxLen):=by rw [← hxt];exact HNO.out.2.2
 clear hxt
 have CAP:Hid (∀ W,Below w.heap.size w W→Calls Tryz.prog 45 #[.agg #[.int .i64 t.kind,.string t.text,.int .i64 t.cols,.slice A t.kids.length cap],.agg #[.int .i64 5,.slice A1 n cp,.int .i64 (k:Int),.int .i64 0,.slice none 0 0,.int .i64 0,.string xt,.string text]] W (ApplyP (Lt W.heap.size) W (applyS t (setOp q (k:Int) xt text)))):=fun W hW=>by
  have h9:=apply_any t (setOp q (k:Int) xt text) A A1 none cap cp 0 W (Lt W.heap.size) (fun _ h=>h) (HIN.out.1.below hW hW.size) HIN.out.2.1 HIN.out.2.2.1 ⟨in64_small (by have:=HFF.out;simp only [setOp];omega),by simp [setOp,In64],HTX.out,by simp [setOp,countsS]⟩ (by show IntsR W _ q (.slice A1 q.length cp);rw [HQL.out];exact HQ.out W hW) (SliceR.nil_ 0 (Nat.zero_le _) none)
  have e9:(setOp q (k:Int) xt text).row.length = n:=HQL.out
  rw [e9] at h9
  exact h9
 have CDN:Hid (∀ W,Below w.heap.size w W→Calls Tryz.prog 138 #[.agg #[.int .i64 t.kind,.string t.text,.int .i64 t.cols,.slice A t.kids.length cap],.agg #[.slice (some ⟨gp,op,none⟩) p.length cp,.slice Am m.length cm],.slice (some ⟨W.heap.size,0,none⟩) 1 1,.slice none 0 0] (W.alloc (.cells #[.int .i64 5,.slice A1 n cp,.int .i64 (k:Int),.int .i64 0,.slice none 0 0,.int .i64 0,.string xt,.string text] 67)) (RecB (W.alloc (.cells #[.int .i64 5,.slice A1 n cp,.int .i64 (k:Int),.int .i64 0,.slice none 0 0,.int .i64 0,.string xt,.string text] 67)) (doneR t p m [setOp q (k:Int) xt text] [] []))):=fun W hW=>by
  have hw:=hW.trans ((blA W (.cells #[.int .i64 5,.slice A1 n cp,.int .i64 (k:Int),.int .i64 0,.slice none 0 0,.int .i64 0,.string xt,.string text] 67)).mono hW.size)
  have hop:opE.R W (Lt W.heap.size) (setOp q (k:Int) xt text) [.int .i64 5,.slice A1 n cp,.int .i64 (k:Int),.int .i64 0,.slice none 0 0,.int .i64 0,.string xt,.string text]:=⟨_,_,rfl,by simp [setOp,In64],in64_small (by have:=HFF.out;simp only [setOp];omega),by simp [setOp,In64],by simp [setOp,In64],HXT.out,HTX.out,HQ.out W hW,SliceR.nil_ 0 (Nat.zero_le _) none⟩
  exact r14done_any t p m [] [setOp q (k:Int) xt text] A (some ⟨gp,op,none⟩) Am (some ⟨W.heap.size,0,none⟩) none cap cp cm 1 0 _ (HIN.out.1.below hw hw.size) HIN.out.2.1 HIN.out.2.2.1 (HIN.out.2.2.2.1.below hw hw.size) (HIN.out.2.2.2.2.1.below hw hw.size) (SliceR.nil_ 0 (Nat.zero_le _) none) (one_op (op:=setOp q (k:Int) xt text) (vr:=.slice A1 n cp) (vn:=.slice none 0 0) hop) (by simp) (fun j hj=>by
   have:j = 0:=by simpa using hj
   subst this
   simp [setOp,countsS])
 obtain ⟨m0,m1,m2,m3,n0,n1⟩:=CELL.out V HO1.out HO2.out
 clear hIR hno HNK HQ HFF HXT
 go_wp2_with fail
 refine (CI.out _ HWB.out).mono ?_
 rintro e w2 ⟨v2,rfl,hr2,hb2⟩
 obtain ⟨A2,c2,rfl⟩:=hr2.form
 have HO1:=hid (HO1.out.below hb2)
 have HO2:=hid (HO2.out.below hb2)
 have HG:=hid (HG.out.below hb2)
 have HWB:=hid (HWB.out.trans (hb2.mono HWB.out.size))
 clear hr2 hb2 m0 m1 m2 m3 n0 n1 CI i2
 go_upto_region 8 with fail
 generalize hY:World.alloc w2 _ = Y
 have hby:Below w2.heap.size w2 Y:=by rw [← hY];exact blA _ _
 have hit:HasObj Y w2.heap.size (.cells #[.int .i64 x9.kind,.string xt,.int .i64 x9.cols,.slice A2 x9.kids.length c2] 24):=by rw [← hY];exact HasObj.at0 _ _
 have y1:Y.cell? ⟨w2.heap.size,1,none⟩ = some (.string xt):=hit.cell 1
 have HO1:=hid (HO1.out.below hby)
 have HO2:=hid (HO2.out.below hby)
 have HG:=hid (HG.out.below hby)
 have HWB:=hid (HWB.out.trans (hby.mono HWB.out.size))
 clear hY hby hit
 go_upto_region 9 with fail
 generalize hZ:World.alloc Y _ = Z
 have hby:Below Y.heap.size Y Z:=by rw [← hZ];exact blA _ _
 have hop:HasObj Z Y.heap.size (.cells #[.int .i64 5,.slice A1 n cp,.int .i64 (k:Int),.int .i64 0,.slice none 0 0,.int .i64 0,.string xt,.string text] 67):=by rw [← hZ];exact HasObj.at0 _ _
 have HOP:=hid hop
 have HO1:=hid (HO1.out.below hby)
 have HO2:=hid (HO2.out.below hby)
 have HG:=hid (HG.out.below hby)
 have HWB:=hid (HWB.out.trans (hby.mono HWB.out.size))
 obtain ⟨p0,p1,p2,p3,p4,p5,p6,p7⟩:=op_cells HOP.out
 obtain ⟨m0,m1,m2,m3,n0,n1⟩:=CELL.out Z HO1.out HO2.out
 obtain ⟨er,her⟩:∃ er,(applyS t (setOp q (k:Int) xt text)).2 = er:=⟨_,rfl⟩
 obtain ⟨am,ham⟩:∃ am,applyS t (setOp q (k:Int) xt text) = am:=⟨_,rfl⟩
 rw [ham] at CAP her HR
 obtain ⟨at9,ae⟩:=am
 simp only at her
 subst her
 simp only at HR
 clear hZ hby hop y1 ham v1 v2
 go_wp2_with fail
 refine (CAP.out _ HWB.out).mono ?_
 rintro e w3 ⟨v3,rfl,hr3,hb3⟩
 simp only at hr3 ⊢
 obtain ⟨A3,c3,rfl⟩:=hr3.form
 have HO1:=hid (HO1.out.below hb3)
 have HO2:=hid (HO2.out.below hb3)
 have HG:=hid (HG.out.below hb3)
 have HOP:=hid (HOP.out.below hb3)
 have HWB:=hid (HWB.out.trans (hb3.mono HWB.out.size))
 clear hr3 hb3 m0 m1 m2 m3 n0 n1 p0 p1 p2 p3 p4 p5 p6 p7 CAP
 by_cases h47:ae = 4∨ae = 7
 ·have HR7:Hid (RES = (recZ,7)):=HR.out.1 h47
  clear HR
  rcases h47 with rfl | rfl
  all_goals
   go_wp2_with (first
    | (refine wpList_store_row rfl 36 (.tmp 6) (.tmp 71) rfl (w.heap.size + 1 + 1) _ rfl rfl 36 _ HG.out (by kernel_rfl) (by simp) (by simp [Value.oneCell']) ?_)
    | fail)
   refine bodyPost_ret (v:=.tuple #[.agg #[.slice none 0 0,.slice none 0 0,.slice none 0 0,.slice none 0 0,.slice none 0 0],.int .i64 7]) (results_row_tmp Tryz.results98 _ _ _ (w.heap.size + 1 + 1) 36 _ (0,0) _ rfl (HG.out.row _) rfl Tryz.underlying36 (by kernel_rfl) _ rfl) rfl ?_
   rw [HR7.out]
   exact rec_zero 7 (below_setRowB HWB.out (by omega) _)
 have HRF:=hid (HR.out.2 h47)
 have g4:(ae == 4) = false:=by rw [beq_eq_false_iff_ne];exact fun e=>h47 (.inl e)
 have g7:(ae == 7) = false:=by rw [beq_eq_false_iff_ne];exact fun e=>h47 (.inr e)
 obtain ⟨m0,m1,m2,m3,n0,n1⟩:=CELL.out w3 HO1.out HO2.out
 obtain ⟨p0,p1,p2,p3,p4,p5,p6,p7⟩:=op_cells HOP.out
 clear h47 HR
 go_wp2_with fail
 refine (CDN.out _ HWB.out).mono ?_
 obtain ⟨ok,hok⟩:∃ ok,(applyAllS t [setOp q (k:Int) xt text]).2 = ok:=⟨_,rfl⟩
 rw [hok] at HRF
 have hDR:doneR t p m [setOp q (k:Int) xt text] [] [] = if ok = 0 then (⟨[setOp q (k:Int) xt text],p,m,[],[]⟩,0) else (recZ,6):=by unfold doneR;rw [hok]
 rw [hDR]
 clear hDR hok
 by_cases h0:ok = 0
 ·have HRF:Hid (RES = (⟨[setOp q (k:Int) xt text],p,m,p,m⟩,0)):=HRF.out.trans (if_pos h0)
  rw [if_pos h0]
  clear h0
  rintro e w4 ⟨Ao9,co9,Ap9,cp9,Am9,cm9,Aap9,cap9,Aam9,cam9,rfl,r1,r2,r3,_,_,hbw⟩
  simp only [List.length_cons,List.length_nil,Nat.zero_add] at r1 r2 r3 ⊢
  have hbw2:=(blA w3 (.cells #[.int .i64 5,.slice A1 n cp,.int .i64 (k:Int),.int .i64 0,.slice none 0 0,.int .i64 0,.string xt,.string text] 67)).trans (hbw.mono (blA w3 (.cells #[.int .i64 5,.slice A1 n cp,.int .i64 (k:Int),.int .i64 0,.slice none 0 0,.int .i64 0,.string xt,.string text] 67)).size)
  have HO2:=hid (HO2.out.below hbw2)
  have HG:=hid (HG.out.below hbw2)
  have HWB:=hid (HWB.out.trans (hbw2.mono HWB.out.size))
  have HR1:=hid (And.intro r1 (And.intro r2 r3))
  clear r1 r2 r3 hbw hbw2 m0 m1 m2 m3 n0 n1 p0 p1 p2 p3 p4 p5 p6 p7 HO1 HOP
  go_upto_region 13 with fail
  generalize hU:World.alloc w4 _ = U
  have hby:Below w4.heap.size w4 U:=by rw [← hU];exact blA _ _
  have hrc:HasObj U w4.heap.size (.cells #[.slice Ao9 1 co9,.slice Ap9 p.length cp9,.slice Am9 m.length cm9,.slice Aap9 0 cap9,.slice Aam9 0 cam9] 36):=by rw [← hU];exact HasObj.at0 _ _
  have HGU:Hid (w4.heap.size≠w.heap.size + 1 + 1):=fun e=>Nat.lt_irrefl _ (e ▸ HG.out.lt)
  have HGL:Hid (w.heap.size≤w4.heap.size):=HWB.out.size
  have HO2:=hid (HO2.out.below hby)
  have HG:=hid (HG.out.below hby)
  have HR1:=hid (And.intro (HR1.out.1.below hby hby.size) (And.intro (HR1.out.2.1.below hby hby.size) (HR1.out.2.2.below hby hby.size)))
  have HWB:=hid (HWB.out.trans (hby.mono HWB.out.size))
  have HRC:=hid hrc
  have n0:=HO2.out.cell 0
  have n1:=HO2.out.cell 1
  have u3:=hrc.cell 3
  have u4:=hrc.cell 4
  have f3:=hrc.free 3
  have f4:=hrc.free 4
  simp only [List.getElem?_toArray,List.getElem?_cons_zero,List.getElem?_cons_succ] at n0 n1 u3 u4
  obtain ⟨gu,hgu⟩:∃ gu,w4.heap.size = gu:=⟨_,rfl⟩
  simp only [hgu] at HRC u3 u4 f3 f4 HGU HGL ⊢
  clear hU hby hrc hgu
  go_upto_region 15 with fail
  have HRV:=hid ((HRC.out.set (i:=3) (.slice (some ⟨gp,op,none⟩) p.length cp)).set (i:=4) (.slice Am m.length cm))
  have hkv:Kept (fun k=>k = gu) U ((U.setCell ⟨gu,3,none⟩ (.slice (some ⟨gp,op,none⟩) p.length cp)).setCell ⟨gu,4,none⟩ (.slice Am m.length cm)):=(Kept.set U ⟨gu,3,none⟩ _).trans' (Kept.set _ ⟨gu,4,none⟩ _)
  have HSL:Hid (SlB U gu):=slb5 HRC.out
  generalize hZ9:((U.setCell ⟨gu,3,none⟩ (.slice (some ⟨gp,op,none⟩) p.length cp)).setCell ⟨gu,4,none⟩ (.slice Am m.length cm)) = Z9 at *
  have HKV:=hid hkv
  have HGZ:=hid (hkv.obj HG.out (fun e=>HGU.out e.symm))
  clear hkv n0 n1 u3 u4 f3 f4
  have e0:Z9.cell? ⟨gu,0,none⟩ = some (.slice Ao9 1 co9):=HRV.out.cell 0
  have e1:Z9.cell? ⟨gu,1,none⟩ = some (.slice Ap9 p.length cp9):=HRV.out.cell 1
  have e2:Z9.cell? ⟨gu,2,none⟩ = some (.slice Am9 m.length cm9):=HRV.out.cell 2
  have e3:Z9.cell? ⟨gu,3,none⟩ = some (.slice (some ⟨gp,op,none⟩) p.length cp):=HRV.out.cell 3
  have e4:Z9.cell? ⟨gu,4,none⟩ = some (.slice Am m.length cm):=HRV.out.cell 4
  go_wp2_with (first
   | (refine wpList_store_row rfl 36 (.tmp 6) (.tmp 84) rfl (w.heap.size + 1 + 1) #[.slice Ao9 1 co9,.slice Ap9 p.length cp9,.slice Am9 m.length cm9,.slice (some ⟨gp,op,none⟩) p.length cp,.slice Am m.length cm] rfl rfl 36 _ HGZ.out (by kernel_rfl) (by simp) (by simp [Value.oneCell']) ?_)
   | fail)
  refine bodyPost_ret (v:=.tuple #[.agg #[.slice Ao9 1 co9,.slice Ap9 p.length cp9,.slice Am9 m.length cm9,.slice (some ⟨gp,op,none⟩) p.length cp,.slice Am m.length cm],.int .i64 0]) (results_row_tmp Tryz.results98 _ _ _ (w.heap.size + 1 + 1) 36 _ (0,0) _ rfl (HGZ.out.row _) rfl Tryz.underlying36 (by kernel_rfl) _ rfl) rfl ?_
  rw [HRF.out]
  have hkr:=Kept.setRow Z9 (w.heap.size + 1 + 1) #[.slice Ao9 1 co9,.slice Ap9 p.length cp9,.slice Am9 m.length cm9,.slice (some ⟨gp,op,none⟩) p.length cp,.slice Am m.length cm]
  have hsl2:SlB U (w.heap.size + 1 + 1):=slb5 HG.out
  have hk2:Kept (fun k=>k = gu∨k = w.heap.size + 1 + 1) U (Z9.setRow (w.heap.size + 1 + 1) #[.slice Ao9 1 co9,.slice Ap9 p.length cp9,.slice Am9 m.length cm9,.slice (some ⟨gp,op,none⟩) p.length cp,.slice Am m.length cm]):=HKV.out.trans hkr
  have hbf:Below w.heap.size w (Z9.setRow (w.heap.size + 1 + 1) #[.slice Ao9 1 co9,.slice Ap9 p.length cp9,.slice Am9 m.length cm9,.slice (some ⟨gp,op,none⟩) p.length cp,.slice Am m.length cm]):=HWB.out.trans (hk2.below HWB.out.size (fun k e=>by have:=HGL.out;omega))
  have ki:∀ {xs:List Int} {v:Value},IntsR U (Lt U.heap.size) xs v→IntsR (Z9.setRow (w.heap.size + 1 + 1) #[.slice Ao9 1 co9,.slice Ap9 p.length cp9,.slice Am9 m.length cm9,.slice (some ⟨gp,op,none⟩) p.length cp,.slice Am m.length cm]) (Lt (Z9.setRow (w.heap.size + 1 + 1) #[.slice Ao9 1 co9,.slice Ap9 p.length cp9,.slice Am9 m.length cm9,.slice (some ⟨gp,op,none⟩) p.length cp,.slice Am m.length cm]).heap.size) xs v:=fun h=>(ints_av hsl2 (ints_av HSL.out h)).keep (fun q hq=>hk2.cell hq.1.1 (fun e=>e.elim hq.1.2 hq.2)) (fun k hk=>Nat.lt_of_lt_of_le hk.1.1 hk2.size)
  have ko:SliceR opE (Z9.setRow (w.heap.size + 1 + 1) #[.slice Ao9 1 co9,.slice Ap9 p.length cp9,.slice Am9 m.length cm9,.slice (some ⟨gp,op,none⟩) p.length cp,.slice Am m.length cm]) (Lt (Z9.setRow (w.heap.size + 1 + 1) #[.slice Ao9 1 co9,.slice Ap9 p.length cp9,.slice Am9 m.length cm9,.slice (some ⟨gp,op,none⟩) p.length cp,.slice Am m.length cm]).heap.size) [setOp q (k:Int) xt text] (.slice Ao9 1 co9):=(ops_av hsl2 (ops_av HSL.out HR1.out.1)).keep (fun q hq=>hk2.cell hq.1.1 (fun e=>e.elim hq.1.2 hq.2)) (fun k hk=>Nat.lt_of_lt_of_le hk.1.1 hk2.size)
  exact ⟨Ao9,co9,Ap9,cp9,Am9,cm9,_,_,_,_,rfl,ko,ki HR1.out.2.1,ki HR1.out.2.2,HIN.out.2.2.2.1.below hbf hbf.size,HIN.out.2.2.2.2.1.below hbf hbf.size,hbf⟩
 ·have HRF:Hid (RES = (recZ,6)):=HRF.out.trans (if_neg h0)
  rw [if_neg h0]
  clear h0
  rintro e w4 ⟨Ao9,co9,Ap9,cp9,Am9,cm9,Aap9,cap9,Aam9,cam9,rfl,z0,z1,z2,z3,z4,hbw⟩
  simp only [recZ,List.length_nil] at z0 z1 z2 z3 z4 ⊢
  have HZZ:=hid (And.intro z0 (And.intro z1 (And.intro z2 (And.intro z3 z4))))
  clear z0 z1 z2 z3 z4
  have hbw2:=(blA w3 (.cells #[.int .i64 5,.slice A1 n cp,.int .i64 (k:Int),.int .i64 0,.slice none 0 0,.int .i64 0,.string xt,.string text] 67)).trans (hbw.mono (blA w3 (.cells #[.int .i64 5,.slice A1 n cp,.int .i64 (k:Int),.int .i64 0,.slice none 0 0,.int .i64 0,.string xt,.string text] 67)).size)
  have HG:=hid (HG.out.below hbw2)
  have HWB:=hid (HWB.out.trans (hbw2.mono HWB.out.size))
  clear hbw hbw2 m0 m1 m2 m3 n0 n1 p0 p1 p2 p3 p4 p5 p6 p7 HO1 HOP HO2
  go_upto_region 13 with fail
  generalize hU:World.alloc w4 _ = U
  have hby:Below w4.heap.size w4 U:=by rw [← hU];exact blA _ _
  have hrc:HasObj U w4.heap.size (.cells #[.slice Ao9 0 co9,.slice Ap9 0 cp9,.slice Am9 0 cm9,.slice Aap9 0 cap9,.slice Aam9 0 cam9] 36):=by rw [← hU];exact HasObj.at0 _ _
  have HG:=hid (HG.out.below hby)
  have HWB:=hid (HWB.out.trans (hby.mono HWB.out.size))
  have e0:U.cell? ⟨w4.heap.size,0,none⟩ = some (.slice Ao9 0 co9):=hrc.cell 0
  have e1:U.cell? ⟨w4.heap.size,1,none⟩ = some (.slice Ap9 0 cp9):=hrc.cell 1
  have e2:U.cell? ⟨w4.heap.size,2,none⟩ = some (.slice Am9 0 cm9):=hrc.cell 2
  have e3:U.cell? ⟨w4.heap.size,3,none⟩ = some (.slice Aap9 0 cap9):=hrc.cell 3
  have e4:U.cell? ⟨w4.heap.size,4,none⟩ = some (.slice Aam9 0 cam9):=hrc.cell 4
  clear hU hby hrc
  go_wp2_with (first
   | (refine wpList_store_row rfl 36 (.tmp 6) (.tmp 84) rfl (w.heap.size + 1 + 1) #[.slice Ao9 0 co9,.slice Ap9 0 cp9,.slice Am9 0 cm9,.slice Aap9 0 cap9,.slice Aam9 0 cam9] rfl rfl 36 _ HG.out (by kernel_rfl) (by simp) (by simp [Value.oneCell']) ?_)
   | fail)
  refine bodyPost_ret (v:=.tuple #[.agg #[.slice Ao9 0 co9,.slice Ap9 0 cp9,.slice Am9 0 cm9,.slice Aap9 0 cap9,.slice Aam9 0 cam9],.int .i64 6]) (results_row_tmp Tryz.results98 _ _ _ (w.heap.size + 1 + 1) 36 _ (0,0) _ rfl (HG.out.row _) rfl Tryz.underlying36 (by kernel_rfl) _ rfl) rfl ?_
  rw [HRF.out]
  exact ⟨_,_,_,_,_,_,_,_,_,_,rfl,sl_nil HZZ.out.1,sl_nil HZZ.out.2.1,sl_nil HZZ.out.2.2.1,sl_nil HZZ.out.2.2.2.1,sl_nil HZZ.out.2.2.2.2,below_setRowB HWB.out (by omega) _⟩
end Go.Proofs.YtbjcioknfjofkaaGreat
