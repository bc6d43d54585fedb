/- Texts put together. -/
import Derived.Test.YtbjcioknfjofkaaGreatQ2b21be9ffa
import Derived.Test.YtbjcioknfjofkaaGreatQ6a6e0ab96f
import Derived.Test.YtbjcioknfjofkaaGreatQe4fdb85d6b
import Derived.Test.YtbjcioknfjofkaaGreatQe827aa6e22
set_option linter.unusedVariables false
set_option linter.unusedSimpArgs false
set_option maxRecDepth 100000
namespace Go.Proofs.YtbjcioknfjofkaaGreat
open Go.RowKit
theorem look_w (t : Tree) (p m : List Int) (A Ap Am : Option Addr) (cap cp cm : Nat) (w : World) (hv : SliceR treeE w (Lt w.heap.size) t.kids (.slice A t.kids.length cap)) (hok : NodeOk t) (hct : countS t ≤ 900000) (hp : IntsR w (Lt w.heap.size) p (.slice Ap p.length cp)) (hm : IntsR w (Lt w.heap.size) m (.slice Am m.length cm)) (hpl : p.length ≤ 90000) :
    Calls Tryz.prog 37 #[.agg #[.int .i64 t.kind, .string t.text, .int .i64 t.cols, .slice A t.kids.length cap], .agg #[.slice Ap p.length cp, .slice Am m.length cm]] w fun e w' => Below w.heap.size w w' ∧
      (((ofS t p m).2 ≠ 0 ∧ e = .returned (.tuple #[.agg #[.int .i64 0, .string ⟨#[]⟩, .int .i64 0, .slice none 0 0, .slice none 0 0, .slice none 0 0, .slice none 0 0, .int .i64 0, .int .i64 0, .slice none 0 0, .int .i64 0, .slice none 0 0, .bool false, .slice none 0 0, .int .i64 0, .int .i64 0, .int .i64 0, .string ⟨#[]⟩, .int .i64 0, .slice none 0 0], .int .i64 (ofS t p m).2])) ∨
       (∃ rr ra rb Ar cr A9 n9 c9 o10 A11 n11 c11 b12 A13 n13 c13 i14 i15 i16 t17 i18 A19 n19 c19, ofS t p m = ((rr, ra, rb), 0) ∧ e = .returned (.tuple #[.agg #[.int .i64 t.kind, .string t.text, .int .i64 t.cols, .slice A t.kids.length cap, .slice Ap p.length cp, .slice Am m.length cm, .slice Ar rr.length cr, .int .i64 ra, .int .i64 rb, .slice A9 n9 c9, .int .i64 o10, .slice A11 n11 c11, .bool b12, .slice A13 n13 c13, .int .i64 i14, .int .i64 i15, .int .i64 i16, .string t17, .int .i64 i18, .slice A19 n19 c19], .int .i64 0]) ∧ IntsR w' (fun k => w.heap.size ≤ k ∧ k < w'.heap.size) rr (.slice Ar rr.length cr))) := by
  refine (look_any t p m A Ap Am cap cp cm w hv hok hct hp hm (by omega)).mono ?_
  rintro e w' (⟨h1, rfl, hb⟩ | ⟨h1, q, o, Ar, cr, A1, Ai, ci, hpe, hr, hq, hi, hb, h2⟩)
  · exact ⟨hb, .inl ⟨h1, rfl⟩⟩
  · have hof : ofS t p m = (((ofS t p m).1.1, (ofS t p m).1.2.1, (ofS t p m).1.2.2), 0) := by rw [← h1]
    refine ⟨hb, .inr ?_⟩
    rcases h2 with ⟨rfl, rfl⟩ | ⟨q2, i, s, A2, A3, c3, rfl, hq2, hit, rfl⟩
    · exact ⟨_, _, _, _, _, _, _, _, _, _, _, _, _, _, _, _, _, _, _, _, _, _, _, _, hof, rfl, hr⟩
    · exact ⟨_, _, _, _, _, _, _, _, _, _, _, _, _, _, _, _, _, _, _, _, _, _, _, _, hof, rfl, hr⟩
theorem form_valid {item:Tree} {slot:Int} (h:formedS (wrapOp [] 0 0 [item] slot) = true):validS (rowT [item]) = true∧0≤slot∧slot < item.kids.length:=by
 unfold formedS wrapOp at h
 rw [if_neg (by simp),if_pos (by simp)] at h
 simp only [Bool.and_eq_true] at h
 have ht:=h.2.1
 obtain ⟨t,h1,h2,h3,h4⟩:=template_one ht
 obtain rfl:item = t:=by simpa using h1
 unfold templateS at ht
 simp only [Bool.and_eq_true,decide_eq_true_eq] at ht
 exact ⟨ht.2.1,h2,h3⟩
theorem countS_item {item:Tree} (h:validS (rowT [item]) = true):countsS [item]≤1000:=by
 have h1:=(valid_count h).1
 have h2:countS (rowT [item]) = 1 + countsS [item]:=rfl
 omega
set_option maxHeartbeats 16000000 in
theorem cWrap_any (t:Tree) (p m:List Int) (item:Tree) (slot:Int) (A Ap Am Ai:Option Addr) (cap cp cm ci:Nat) (w:World) (hv:SliceR treeE w (Lt w.heap.size) t.kids (.slice A t.kids.length cap)) (hok:NodeOk t) (hct:countS t≤900000) (hp:IntsR w (Lt w.heap.size) p (.slice Ap p.length cp)) (hm:IntsR w (Lt w.heap.size) m (.slice Am m.length cm)) (hpl:p.length≤90000) (hml:m.length≤90000) (hi:SliceR treeE w (Lt w.heap.size) item.kids (.slice Ai item.kids.length ci)) (hio:NodeOk item) (hs64:In64 slot) :
  Calls Tryz.prog 23 #[.agg #[.int .i64 t.kind,.string t.text,.int .i64 t.cols,.slice A t.kids.length cap],.agg #[.slice Ap p.length cp,.slice Am m.length cm],.agg #[.int .i64 item.kind,.string item.text,.int .i64 item.cols,.slice Ai item.kids.length ci],.int .i64 slot] w (RecF w (cwrapS t p m item slot)):=by
 obtain ⟨W0,hW0⟩:∃ W0,(((w.alloc (.cells #[.int .i64 t.kind,.string t.text,.int .i64 t.cols,.slice A t.kids.length cap] 24)).alloc (.cells #[.slice Ap p.length cp,.slice Am m.length cm] 33)).alloc (.cells #[.int .i64 item.kind,.string item.text,.int .i64 item.cols,.slice Ai item.kids.length ci] 24)).alloc (.cells #[.slice none 0 0,.slice none 0 0,.slice none 0 0,.slice none 0 0,.slice none 0 0] 36) = W0:=⟨_,rfl⟩
 have hb0:Below w.heap.size w W0:=by rw [← hW0];exact blAlloc (blAlloc (blAlloc (blA _ _) _) _) _
 have ho1:HasObj W0 w.heap.size (.cells #[.int .i64 t.kind,.string t.text,.int .i64 t.cols,.slice A t.kids.length cap] 24):=by rw [← hW0];exact (((HasObj.at0 _ _).al _).al _).al _
 have ho2:HasObj W0 (w.heap.size + 1) (.cells #[.slice Ap p.length cp,.slice Am m.length cm] 33):=by rw [← hW0];exact ((HasObj.at1 _ _ _).al _).al _
 have ho4:HasObj W0 (w.heap.size + 1 + 1) (.cells #[.int .i64 item.kind,.string item.text,.int .i64 item.cols,.slice Ai item.kids.length ci] 24):=by rw [← hW0];exact (HasObj.at2 _ _ _ _).al _
 have HO1:=hid ho1
 have HO2:=hid ho2
 have HO4:=hid ho4
 have HO3:Hid (HasObj W0 (w.heap.size + 1 + 1 + 1) (.cells #[.slice none 0 0,.slice none 0 0,.slice none 0 0,.slice none 0 0,.slice none 0 0] 36)):=by show HasObj _ _ _;rw [← hW0];exact HasObj.new _ _ _ (by simp)
 have HB0:=hid hb0
 have HLT:Hid (w.heap.size + 1 + 1 + 1 < W0.heap.size):=HO3.out.lt
 have CELL:Hid (∀ W,HasObj W w.heap.size (.cells #[.int .i64 t.kind,.string t.text,.int .i64 t.cols,.slice A t.kids.length cap] 24)→HasObj W (w.heap.size + 1) (.cells #[.slice Ap p.length cp,.slice Am m.length cm] 33)→W.cell? ⟨w.heap.size,0,none⟩ = some (.int .i64 t.kind)∧W.cell? ⟨w.heap.size,1,none⟩ = some (.string t.text)∧W.cell? ⟨w.heap.size,2,none⟩ = some (.int .i64 t.cols)∧W.cell? ⟨w.heap.size,3,none⟩ = some (.slice A t.kids.length cap)∧W.cell? ⟨w.heap.size + 1,0,none⟩ = some (.slice Ap p.length cp)∧W.cell? ⟨w.heap.size + 1,1,none⟩ = some (.slice Am m.length cm)):=fun W h1 h2=>⟨h1.cell 0,h1.cell 1,h1.cell 2,h1.cell 3,h2.cell 0,h2.cell 1⟩
 have CL:Hid (∀ W,Below w.heap.size w W→Calls Tryz.prog 37 #[.agg #[.int .i64 t.kind,.string t.text,.int .i64 t.cols,.slice A t.kids.length cap],.agg #[.slice Ap p.length cp,.slice Am m.length cm]] W _):=fun W hW=>look_w t p m A Ap Am cap cp cm W (hv.below hW hW.size) hok hct (hp.below hW hW.size) (hm.below hW hW.size) hpl
 have CV:Hid (∀ W,Below w.heap.size w W→Calls Tryz.prog 49 #[.agg #[.int .i64 t.kind,.string t.text,.int .i64 t.cols,.slice A t.kids.length cap]] W fun e w'=>e = .returned (.bool (validS t))∧Below W.heap.size W w'):=fun W hW=>nValid_any t A cap W (hv.below hW hW.size) hok.2.2
 have HNI:Hid (∀ W gn,Below w.heap.size w W→HasObj W gn (.cells #[.int .i64 item.kind,.string item.text,.int .i64 item.cols,.slice Ai item.kids.length ci] 24)→SliceR treeE W (Lt W.heap.size) [item] (.slice (some ⟨gn,0,none⟩) 1 1)):=fun W gn hW ho=>row_obj (E:=treeE) ho (treeR_mk.2 ⟨_,rfl,hio.1,hio.2.1,hio.2.2,hi.below hW hW.size⟩) ho.lt
 have CF:Hid (∀ W gn,Below w.heap.size w W→HasObj W gn (.cells #[.int .i64 item.kind,.string item.text,.int .i64 item.cols,.slice Ai item.kids.length ci] 24)→Calls Tryz.prog 54 #[.agg #[.int .i64 3,.slice none 0 0,.int .i64 0,.int .i64 0,.slice (some ⟨gn,0,none⟩) 1 1,.int .i64 slot,.string ⟨#[]⟩,.string ⟨#[]⟩]] W (EqC W (formedS (wrapOp [] 0 0 [item] slot)))):=fun W gn hW ho=>eFormed_any (wrapOp [] 0 0 [item] slot) 0 none (some ⟨gn,0,none⟩) 0 1 W (HNI.out W gn hW ho)
 have HE:=hid (wrap_cases t p m item slot)
 have HIN:=hid (And.intro hv (And.intro hok (And.intro hct (And.intro hp (And.intro hm (And.intro hpl hml))))))
 have HII:=hid hi
 have HS64:Hid (In64 slot):=hs64
 obtain ⟨RES,hRES⟩:∃ RES,cwrapS t p m item slot = RES:=⟨_,rfl⟩
 rw [hRES] at HE ⊢
 obtain ⟨m0,m1,m2,m3,n0,n1⟩:=CELL.out W0 ho1 ho2
 have i0:W0.cell? ⟨w.heap.size + 1 + 1,0,none⟩ = some (.int .i64 item.kind):=ho4.cell 0
 have i1:W0.cell? ⟨w.heap.size + 1 + 1,1,none⟩ = some (.string item.text):=ho4.cell 1
 have i2:W0.cell? ⟨w.heap.size + 1 + 1,2,none⟩ = some (.int .i64 item.cols):=ho4.cell 2
 have i3:W0.cell? ⟨w.heap.size + 1 + 1,3,none⟩ = some (.slice Ai item.kids.length ci):=ho4.cell 3
 clear hv hok hct hp hm hpl hml hb0 ho1 ho2 ho4 hRES hi hio hs64
 obtain ⟨bv,hbv⟩:∃ bv,validS t = bv:=⟨_,rfl⟩
 obtain ⟨bi,hbi⟩:∃ bi,formedS (wrapOp [] 0 0 [item] slot) = bi:=⟨_,rfl⟩
 have HFO:Hid (bi = true→validS (rowT [item]) = true∧0≤slot∧slot < item.kids.length):=fun h=>form_valid (hbi.trans h)
 rw [hbv] at CV HE
 rw [hbi] at CF HE
 clear hbv hbi
 go_enter Tryz.func23,Tryz.ntmps23
 go_upto_region 1 with fail
 clear hW0
 go_upto_region 2 with (first
  | (refine wpList_store_row rfl 67 (.tmp 10) (.tmp 18) rfl (W0.heap.size + 1) _ rfl rfl 67 _ (HasObj.at1 _ _ _) (by kernel_rfl) (by simp) (by simp [Value.oneCell']) ?_)
  | fail)
 generalize hX:World.setRow _ _ _ = X0
 have hbx:Below W0.heap.size W0 X0:=by rw [← hX];exact below_setRowB (blAlloc (blA _ _) _) (Nat.le_succ _) _
 have HON:Hid (HasObj X0 W0.heap.size (.cells #[.int .i64 item.kind,.string item.text,.int .i64 item.cols,.slice Ai item.kids.length ci] 24)):=by show HasObj _ _ _;rw [← hX];exact (setRow_other _ _ _ _ (by omega)).trans ((HasObj.at0 W0 _).al _)
 obtain ⟨gn,hgn⟩:∃ gn,W0.heap.size = gn:=⟨_,rfl⟩
 have HOD:Hid (HasObj X0 (W0.heap.size + 1) (.cells #[.int .i64 3,.slice none 0 0,.int .i64 0,.int .i64 0,.slice (some ⟨gn,0,none⟩) 1 1,.int .i64 slot,.string ⟨#[]⟩,.string ⟨#[]⟩] 67)):=by show HasObj _ _ _;rw [← hX,← hgn];exact (HasObj.at1 W0 _ _).row _
 simp only [hgn] at HON HOD ⊢
 have HNB:Hid (gn + 1≠w.heap.size + 1 + 1 + 1∧w.heap.size≤gn):=by have:=HLT.out;show _∧_;omega
 obtain ⟨go,hgo⟩:∃ go,gn + 1 = go:=⟨_,rfl⟩
 have HNO:Hid (go≠w.heap.size + 1 + 1 + 1):=by have:=HNB.out;show _≠_;omega
 have HGO:Hid (w.heap.size≤go∧gn≠go):=by have:=HNB.out;show _∧_;omega
 have HD4:Hid (go≠w.heap.size + 1 + 1):=by have:=HLT.out;have:=HNB.out;show _≠_;omega
 simp only [hgo] at HOD ⊢
 have HB1:=hid (HB0.out.trans (hbx.mono HB0.out.size))
 have HO1:=hid (HO1.out.below hbx)
 have HO2:=hid (HO2.out.below hbx)
 have HO4:=hid (HO4.out.below hbx)
 have HG:=hid (HO3.out.below hbx)
 clear m0 m1 m2 m3 n0 n1 i0 i1 i2 i3 HO3 hX hbx hgn hgo HNB HLT
 obtain ⟨m0,m1,m2,m3,n0,n1⟩:=CELL.out X0 HO1.out HO2.out
 go_wp2_with fail
 refine (CV.out _ HB1.out).mono ?_
 rintro e wv ⟨rfl,hbv⟩
 have HB1:=hid (HB1.out.trans (hbv.mono HB1.out.size))
 have HO1:=hid (HO1.out.below hbv)
 have HO2:=hid (HO2.out.below hbv)
 have HO4:=hid (HO4.out.below hbv)
 have HON:=hid (HON.out.below hbv)
 have HOD:=hid (HOD.out.below hbv)
 have HG:=hid (HG.out.below hbv)
 clear hbv m0 m1 m2 m3 n0 n1 CV
 cases bv
 case false =>
  have HR:=hid (HE.out.1 rfl)
  clear HE CF
  go_wp2_with (first
   | (refine wpList_store_row rfl 36 (.tmp 8) (.tmp 27) rfl (w.heap.size + 1 + 1 + 1) _ rfl rfl 36 _ HG.out (by kernel_rfl) (by simp) (by simp [Value.oneCell']) ?_)
   | fail)
  refine bodyPost_ret (v:=.tuple #[.agg #[.slice none 0 0,.slice none 0 0,.slice none 0 0,.slice none 0 0,.slice none 0 0],.int .i64 1]) (results_row_tmp Tryz.results23 _ _ _ (w.heap.size + 1 + 1 + 1) 36 _ (0,0) _ rfl (HG.out.row _) rfl Tryz.underlying36 (by kernel_rfl) _ rfl) rfl ?_
  rw [HR.out]
  exact recF_zero 1 (below_setRowB HB1.out (by omega) _)
 case true =>
 obtain ⟨o0,o1,o2,o3,o4,o5,o6,o7⟩:=op_cells HOD.out
 go_wp2_with fail
 refine (CF.out _ _ HB1.out HON.out).mono ?_
 rintro e wi ⟨rfl,hbi⟩
 have HB1:=hid (HB1.out.trans (hbi.mono HB1.out.size))
 have HO1:=hid (HO1.out.below hbi)
 have HO2:=hid (HO2.out.below hbi)
 have HO4:=hid (HO4.out.below hbi)
 have HON:=hid (HON.out.below hbi)
 have HOD:=hid (HOD.out.below hbi)
 have HG:=hid (HG.out.below hbi)
 clear hbi CF o0 o1 o2 o3 o4 o5 o6 o7
 cases bi
 case false =>
  have HR:=hid (HE.out.1 rfl)
  clear HE
  go_wp2_with (first
   | (refine wpList_store_row rfl 36 (.tmp 8) (.tmp 27) rfl (w.heap.size + 1 + 1 + 1) _ rfl rfl 36 _ HG.out (by kernel_rfl) (by simp) (by simp [Value.oneCell']) ?_)
   | fail)
  refine bodyPost_ret (v:=.tuple #[.agg #[.slice none 0 0,.slice none 0 0,.slice none 0 0,.slice none 0 0,.slice none 0 0],.int .i64 1]) (results_row_tmp Tryz.results23 _ _ _ (w.heap.size + 1 + 1 + 1) 36 _ (0,0) _ rfl (HG.out.row _) rfl Tryz.underlying36 (by kernel_rfl) _ rfl) rfl ?_
  rw [HR.out]
  exact recF_zero 1 (below_setRowB HB1.out (by omega) _)
 case true =>
 have HFX:=hid (HFO.out rfl)
 clear HFO
 have HSL:=hid HFX.out.2
 have HFO:=hid HFX.out.1
 clear HFX
 obtain ⟨m0,m1,m2,m3,n0,n1⟩:=CELL.out wi HO1.out HO2.out
 go_wp2_with fail
 refine (CL.out _ HB1.out).mono ?_
 rintro e w1 ⟨hb1,h1⟩
 have HLO:=hid (And.intro HON.out.lt HOD.out.lt)
 have HO1:=hid (HO1.out.below hb1)
 have HO2:=hid (HO2.out.below hb1)
 have HO4:=hid (HO4.out.below hb1)
 have HON:=hid (HON.out.below hb1)
 have HOD:=hid (HOD.out.below hb1)
 have HG:=hid (HG.out.below hb1)
 have HB1:=hid (HB1.out.trans (hb1.mono HB1.out.size))
 have HS1:=hid hb1.size
 clear hb1 m0 m1 m2 m3 n0 n1 CL
 rcases h1 with ⟨he,rfl⟩ | ⟨rr,ra,rb,Ar,cr,A9,n9,c9,o10,A11,n11,c11,b12,A13,n13,c13,i14,i15,i16,t17,i18,A19,n19,c19,hof,rfl,hrr⟩
 ·have HR:=hid (HE.out.2.1 rfl he)
  have hse:((ofS t p m).2 != 0) = true:=by simp [he]
  clear HE he
  generalize (ofS t p m).2 = se at *
  go_upto_region 5 with (first
   | (refine wpList_store_row rfl 73 (.tmp 11) (.tmp 32) rfl w1.heap.size _ rfl rfl 73 _ (HasObj.at0 _ _) (by kernel_rfl) (by simp) (by simp [Value.oneCell']) ?_)
   | fail)
  generalize hX:World.setRow _ _ _ = X
  have HBX:Hid (Below w.heap.size w X):=by show Below _ _ _;rw [← hX];exact below_setRowB (HB1.out.trans ((blA w1 _).mono HB1.out.size)) HB1.out.size _
  have HG:Hid (HasObj X (w.heap.size + 1 + 1 + 1) (.cells #[.slice none 0 0,.slice none 0 0,.slice none 0 0,.slice none 0 0,.slice none 0 0] 36)):=by show HasObj _ _ _;rw [← hX];exact (setRow_other _ _ _ _ (Nat.ne_of_lt HG.out.lt)).trans (HG.out.al _)
  clear hX
  go_wp2_with (first
   | (refine wpList_store_row rfl 36 (.tmp 8) (.tmp 36) rfl (w.heap.size + 1 + 1 + 1) _ rfl rfl 36 _ HG.out (by kernel_rfl) (by simp) (by simp [Value.oneCell']) ?_)
   | fail)
  refine bodyPost_ret (v:=.tuple #[.agg #[.slice none 0 0,.slice none 0 0,.slice none 0 0,.slice none 0 0,.slice none 0 0],.int .i64 se]) (results_row_tmp Tryz.results23 _ _ _ (w.heap.size + 1 + 1 + 1) 36 _ (0,0) _ rfl (HG.out.row _) rfl Tryz.underlying36 (by kernel_rfl) _ rfl) rfl ?_
  rw [HR.out]
  exact recF_zero se (below_setRowB HBX.out (by omega) _)
 ·have HR:=hid (HE.out.2.2 rr ra rb rfl hof)
  have HF:=hid (of_facts hof HIN.out.2.2.2.2.2.1 HIN.out.2.2.2.2.2.2)
  clear HE hof
  go_upto_region 5 with (first
   | (refine wpList_store_row rfl 73 (.tmp 11) (.tmp 32) rfl w1.heap.size _ rfl rfl 73 _ (HasObj.at0 _ _) (by kernel_rfl) (by simp) (by simp [Value.oneCell']) ?_)
   | fail)
  generalize hX:World.setRow _ _ _ = X
  have hbx:Below w1.heap.size w1 X:=by rw [← hX];exact below_setRowB (blA w1 _) (Nat.le_refl _) _
  have HSX:Hid (HasObj X w1.heap.size (.cells #[.int .i64 t.kind,.string t.text,.int .i64 t.cols,.slice A t.kids.length cap,.slice Ap p.length cp,.slice Am m.length cm,.slice Ar rr.length cr,.int .i64 ra,.int .i64 rb,.slice A9 n9 c9,.int .i64 o10,.slice A11 n11 c11,.bool b12,.slice A13 n13 c13,.int .i64 i14,.int .i64 i15,.int .i64 i16,.string t17,.int .i64 i18,.slice A19 n19 c19] 73)):=by show HasObj _ _ _;rw [← hX];exact (HasObj.at0 w1 _).row _
  have HGS:Hid (w1.heap.size≠w.heap.size + 1 + 1 + 1∧w1.heap.size≠go):=⟨fun e=>Nat.lt_irrefl _ (e ▸ HG.out.lt),by have:=HLO.out;have:=HS1.out;omega⟩
  have HG:=hid (HG.out.below hbx)
  have HO2:=hid (HO2.out.below hbx)
  have HO4:=hid (HO4.out.below hbx)
  have HON:=hid (HON.out.below hbx)
  have HOD:=hid (HOD.out.below hbx)
  have HB2:=hid (HB1.out.trans (hbx.mono HB1.out.size))
  have HRR:Hid (IntsR X (fun k=>k≠go∧k < X.heap.size) rr (.slice Ar rr.length cr)):=hid (hrr.keep (fun q hq=>hbx.cell hq.2) (fun k hk=>⟨by have:=HLO.out;omega,Nat.lt_of_lt_of_le hk.2 hbx.size⟩))
  obtain ⟨gs,hgs⟩:∃ gs,w1.heap.size = gs:=⟨_,rfl⟩
  simp only [hgs] at HSX HGS ⊢
  clear hX hbx hgs HB1 HO1 hrr HLO HS1
  have s6:X.cell? ⟨gs,6,none⟩ = some (.slice Ar rr.length cr):=HSX.out.cell 6
  have s7:X.cell? ⟨gs,7,none⟩ = some (.int .i64 ra):=HSX.out.cell 7
  have s8:X.cell? ⟨gs,8,none⟩ = some (.int .i64 rb):=HSX.out.cell 8
  have q1:X.cell? ⟨go,1,none⟩ = some (.slice none 0 0):=HOD.out.cell 1
  have q2:X.cell? ⟨go,2,none⟩ = some (.int .i64 0):=HOD.out.cell 2
  have q3:X.cell? ⟨go,3,none⟩ = some (.int .i64 0):=HOD.out.cell 3
  have f1:X.frozen? ⟨go,1,none⟩ = false:=HOD.out.free 1
  have f2:X.frozen? ⟨go,2,none⟩ = false:=HOD.out.free 2
  have f3:X.frozen? ⟨go,3,none⟩ = false:=HOD.out.free 3
  have d1:¬ gs = go:=HGS.out.2
  have d2:¬ go = gs:=fun e=>HGS.out.2 e.symm
  have v1:IntKind.i64.wrap (rb - ra) = rb - ra:=IntWalk.i64_in _ (by have:=HF.out;omega)
  go_upto_region 7 with fail
  go_region
  generalize hV:World.drew _ = V
  have hkv:Kept (fun k=>k = go) X V:=by rw [← hV];exact kw
  have HOD:Hid (HasObj V go (.cells #[.int .i64 3,.slice Ar rr.length cr,.int .i64 ra,.int .i64 (rb - ra),.slice (some ⟨gn,0,none⟩) 1 1,.int .i64 slot,.string ⟨#[]⟩,.string ⟨#[]⟩] 67)):=by show HasObj _ _ _;rw [← hV];exact (((HOD.out.set (i:=1) _).set (i:=2) _).set (i:=3) _).dr
  have HSX:=hid (hkv.obj HSX.out HGS.out.2)
  have HO4:=hid (hkv.obj HO4.out (fun e=>HD4.out e.symm))
  have HON:=hid (hkv.obj HON.out HGO.out.2)
  have HG:=hid (hkv.obj HG.out (fun e=>HNO.out e.symm))
  have HWB:Hid (Below w.heap.size w V):=HB2.out.trans (hkv.below HB2.out.size (fun k e=>by rw [e];exact HGO.out.1))
  have HRR:Hid (IntsR V (Lt V.heap.size) rr (.slice Ar rr.length cr)):=HRR.out.keep (fun q hq=>hkv.cell hq.2 hq.1) (fun k hk=>Nat.lt_of_lt_of_le hk.2 hkv.size)
  have HNS:Hid (gs≠w.heap.size + 1 + 1 + 1):=HGS.out.1
  clear hV hkv s6 s7 s8 q1 q2 q3 f1 f2 f3 d1 d2 v1 HB2 HGS HO2
  have v2:IntKind.i64.wrap (ra + 1) = ra + 1:=IntWalk.i64_in _ (by have:=HF.out;omega)
  have HK64:Hid (∀ i ∈ [ra + 1],In64 i):=fun i hi=>by rw [List.mem_singleton.1 hi];have:=HF.out;exact in64_small (by omega)
  have HL:Hid (rr.length + [ra + 1].length≤100000):=by have:=HF.out;show _ + 1≤_;omega
  have HSD:Hid (rr.length≤1000000):=by have:=HF.out;show _≤_;omega
  have HNV:=hid (HNI.out V gn HWB.out HON.out)
  have HO:Hid (IntsR V (NF (fun _=>False) V) rr (.slice Ar rr.length cr)∧SliceR treeE V (NF (fun _=>False) V) [item] (.slice (some ⟨gn,0,none⟩) 1 1)):=⟨HRR.out.keep (fun _ _=>rfl) (fun k hk=>⟨hk,id⟩),HNV.out.keep (fun _ _=>rfl) (fun k hk=>⟨hk,id⟩)⟩
  have HW:Hid (Below V.heap.size V V):=hid (Below.refl _ _)
  have HDN:Hid (∀ W B pos,BA V W B #[.int .i64 t.kind,.string t.text,.int .i64 t.cols,.slice A t.kids.length cap,.slice Ap p.length cp,.slice Am m.length cm,.slice Ar rr.length cr,.int .i64 ra,.int .i64 rb,.slice A9 n9 c9,.int .i64 o10,.slice A11 n11 c11,.bool b12,.slice A13 n13 c13,.int .i64 i14,.int .i64 i15,.int .i64 i16,.string t17,.int .i64 i18,.slice A19 n19 c19] [(wrapOp rr ra (rb - ra) [item] slot)] pos []→RES = doneR t p m [(wrapOp rr ra (rb - ra) [item] slot)] pos []→Calls Tryz.prog 43 #[.pointer (some ⟨B,0,none⟩)] W (RecF V RES)):=fun W B pos hb hr=>by
   have hw:=HWB.out.trans (hb.below.mono HWB.out.size)
   rw [hr]
   exact cb_done hb t p m A Ap Am cap cp cm rfl rfl rfl rfl rfl rfl (HIN.out.1.below hw hw.size) HIN.out.2.1 HIN.out.2.2.1 (HIN.out.2.2.2.1.below hw hw.size) (HIN.out.2.2.2.2.1.below hw hw.size) (Nat.le_trans HIN.out.2.2.2.2.2.1 (by decide)) (Nat.le_trans HIN.out.2.2.2.2.2.2 (by decide)) (by simp)
  have HIV:=hid (HII.out.below HWB.out HWB.out.size)
  obtain ⟨z,hz⟩:∃ z,decide (rb - ra = 0) = z:=⟨_,rfl⟩
  have i9:((rb - ra) == 0) = z:=by rw [← hz];rfl
  obtain ⟨E9,hE9⟩:∃ E,emptyS item.kids 0 slot z = E:=⟨_,rfl⟩
  rw [hz,hE9] at HR
  have HE9:=hid hE9
  clear HNI HNV hE9 hz HII
  go_upto_region 8 with fail
  go_cut [13] (fun v wx=>∃ B,v = .pointer (some ⟨B,0,none⟩)∧BA V wx B #[.int .i64 t.kind,.string t.text,.int .i64 t.cols,.slice A t.kids.length cap,.slice Ap p.length cp,.slice Am m.length cm,.slice Ar rr.length cr,.int .i64 ra,.int .i64 rb,.slice A9 n9 c9,.int .i64 o10,.slice A11 n11 c11,.bool b12,.slice A13 n13 c13,.int .i64 i14,.int .i64 i15,.int .i64 i16,.string t17,.int .i64 i18,.slice A19 n19 c19] [(wrapOp rr ra (rb - ra) [item] slot)] (rr ++ [ra + 1]) [])
  case first =>
   refine wp_region_noPanic ?_
   refine wp_region_held_drew (S:=fun w'=>Kept (fun k=>k = w.heap.size + 1 + 1 + 1) V w') (by kernel_rfl) (kwt HW.out) (fun hHeld=>?_)
   refine wpAnyH_take (i:=0) (oi:=⟨some 54,_,_,_,_,_⟩) (v:=_) rfl (by kernel_rfl) (by kernel_rfl) (by kernel_rfl) (fun _ _ _ h=>h) (yif_row 73 (.tmp 11) rfl (by rfl) _ rfl (fun w hS=>hS.obj HSX.out HNS.out) Tryz.underlying73 (by kernel_rfl)) hHeld ?_
   try simp only [Act.put,List.setIfInBounds_toArray,List.set_cons_zero,List.set_cons_succ]
   refine wpAnyH_take (i:=2) (oi:=⟨some 56,_,_,_,_,_⟩) (v:=_) rfl (by kernel_rfl) (by kernel_rfl) (by kernel_rfl) (fun _ _ _ h=>h) (yif_row 67 (.tmp 10) rfl (by rfl) _ rfl (fun w hS=>hS.obj HOD.out HNO.out) Tryz.underlying67 (by kernel_rfl)) hHeld ?_
   try simp only [Act.put,List.setIfInBounds_toArray,List.set_cons_zero,List.set_cons_succ]
   refine wpAnyH_take (i:=4) (oi:=⟨some 58,_,_,_,_,_⟩) (v:=_) rfl (by kernel_rfl) (by kernel_rfl) (by kernel_rfl) (fun _ _ _ h=>h) (Or.inl ⟨by rfl,fun w hS=>by clear hS;go_simp;try with_reducible rfl⟩) hHeld ?_
   try simp only [Act.put,List.setIfInBounds_toArray,List.set_cons_zero,List.set_cons_succ]
   refine wpAnyH_take (i:=5) (oi:=⟨some 59,_,_,_,_,_⟩) (v:=_) rfl (by kernel_rfl) (by kernel_rfl) (by kernel_rfl) (fun _ _ _ h=>h) (Or.inl ⟨by rfl,fun W hS=>by have h:W.cell? ⟨go,1,none⟩ = some (.slice Ar rr.length cr):=(hS.obj HOD.out HNO.out).cell 1;clear hS;go_simp;try with_reducible rfl⟩) hHeld ?_
   try simp only [Act.put,List.setIfInBounds_toArray,List.set_cons_zero,List.set_cons_succ]
   refine wpAnyH_take (i:=6) (oi:=⟨some 60,_,_,_,_,_⟩) (v:=_) rfl (by kernel_rfl) (by kernel_rfl) (by kernel_rfl) (fun _ _ _ h=>h) (Or.inl ⟨by rfl,fun w hS=>by clear hS;go_simp;try with_reducible rfl⟩) hHeld ?_
   try simp only [Act.put,List.setIfInBounds_toArray,List.set_cons_zero,List.set_cons_succ]
   refine wpAnyH_take (i:=7) (oi:=⟨some 61,_,_,_,_,_⟩) (v:=_) rfl (by kernel_rfl) (by kernel_rfl) (by kernel_rfl) (fun _ _ _ h=>h) (Or.inl ⟨by rfl,fun W hS=>by have h:W.cell? ⟨go,2,none⟩ = some (.int .i64 ra):=(hS.obj HOD.out HNO.out).cell 2;clear hS;go_simp;try with_reducible rfl⟩) hHeld ?_
   try simp only [Act.put,List.setIfInBounds_toArray,List.set_cons_zero,List.set_cons_succ]
   refine wpAnyH_take (i:=8) (oi:=⟨some 62,_,_,_,_,_⟩) (v:=_) rfl (by kernel_rfl) (by kernel_rfl) (by kernel_rfl) (fun _ _ _ h=>h) (Or.inl ⟨by rfl,fun w hS=>by clear hS;go_simp;try with_reducible rfl⟩) hHeld ?_
   try simp only [Act.put,List.setIfInBounds_toArray,List.set_cons_zero,List.set_cons_succ]
   refine wpAnyH_ready (rs:=[1,9]) (by kernel_rfl) (by simp) ?_
   refine (AllReadyH.cons (o:=⟨some 55,_,_,_,_,_⟩) rfl (fun K hK=>?_) (AllReadyH.cons (o:=⟨some 63,_,_,_,_,_⟩) rfl (fun K hK=>?_) AllReadyH.nil))
   go_simp
   refine Calls.mono (cb_build _ _ _ _ _ _ _ _ _ _ _ _ _ _ _ _ _ _ _ _ V _ (bwt HW.out)) ?_
   rintro e wk ⟨B,F,rfl,hbs,hst⟩
   try have HO:=hid (And.intro (hst.keep (nf_bl bw HO.out.1)) (hst.keep (nf_bl bw HO.out.2)))
   try have HR:=hid (Stp.keep hst (nf_bl bw HR.out))
   have HB:=hid hbs
   have HBO:=HB
   have HW:=hid hbs.below
   clear hst hbs
   refine hK.out _ _ (kwt HW.out) (fun hHeld=>?_)
   clear hK K
   try simp only [Act.put,List.setIfInBounds_toArray,List.set_cons_zero,List.set_cons_succ]
   refine wpAnyH_ready (rs:=[3,9]) (by kernel_rfl) (by simp) ?_
   refine (AllReadyH.cons (o:=⟨some 57,_,_,_,_,_⟩) rfl (fun K hK=>?_) (AllReadyH.cons (o:=⟨some 63,_,_,_,_,_⟩) rfl (fun K hK=>?_) AllReadyH.nil))
   go_simp
   refine Calls.mono (cb_op (HB.out.bl bw) (wrapOp rr ra (rb - ra) [item] slot) _ _ _ _ (by simp) (nf_lt (nf_bl bw HO.out.1)) (nf_lt (nf_bl bw HO.out.2)) HSD.out (by have:=countS_item HFO.out;exact Nat.le_trans this (by decide)) (by simp [wrapOp,In64]) (in64_small (by have:=HF.out;show _≤ra∧ra≤_;omega)) (in64_small (by have:=HF.out;show _≤rb - ra∧rb - ra≤_;omega)) HS64.out (Nat.zero_le _) (Nat.zero_le _)) ?_
   rintro e wk ⟨F,rfl,hbs,hst⟩
   try have HR:=hid (Stp.keep hst (nf_bl bw HR.out))
   have HB:=hid hbs
   have HBO:=HB
   have HW:=hid hbs.below
   clear hst hbs
   refine hK.out _ _ (kwt HW.out) (fun hHeld=>?_)
   clear hK K
   try simp only [Act.put,List.setIfInBounds_toArray,List.set_cons_zero,List.set_cons_succ]
   refine wpAnyH_ready (rs:=[9]) (by kernel_rfl) (by simp) ?_
   refine (AllReadyH.cons (o:=⟨some 63,_,_,_,_,_⟩) rfl (fun K hK=>?_) AllReadyH.nil)
   go_simp
   refine hK.out _ _ (kwt HW.out) (fun hHeld=>?_)
   clear hK K
   try simp only [Act.put,List.setIfInBounds_toArray,List.set_cons_zero,List.set_cons_succ]
   refine wpAnyH_ready (rs:=[10]) (by kernel_rfl) (by simp) ?_
   refine (AllReadyH.cons (o:=⟨some 64,_,_,_,_,_⟩) rfl (fun K hK=>?_) AllReadyH.nil)
   go_simp
   refine Calls.mono (cb_at (HB.out.bl bw) rr [(ra + 1)] _ _ _ _ ((HRR.out.below (bwt HW.out) (bwt HW.out).size)) (row_lt _ [(ra + 1)] _ (HK64.out) (by simp [maxLen])) (HL.out)) ?_
   rintro e wk ⟨rfl,hba⟩
   have HB:=hid hba
   have HW:=hid hba.below
   clear hba
   refine hK.out _ _ (kwt HW.out) (fun hHeld=>?_)
   clear hK K
   try simp only [Act.put,List.setIfInBounds_toArray,List.set_cons_zero,List.set_cons_succ]
   rotate_left
   go_simp
   refine hK.out _ _ (kwt HW.out) (fun hHeld=>?_)
   clear hK K
   try simp only [Act.put,List.setIfInBounds_toArray,List.set_cons_zero,List.set_cons_succ]
   refine wpAnyH_ready (rs:=[3]) (by kernel_rfl) (by simp) ?_
   refine (AllReadyH.cons (o:=⟨some 57,_,_,_,_,_⟩) rfl (fun K hK=>?_) AllReadyH.nil)
   go_simp
   refine Calls.mono (cb_op (HB.out.bl bw) (wrapOp rr ra (rb - ra) [item] slot) _ _ _ _ (by simp) (nf_lt (nf_bl bw HO.out.1)) (nf_lt (nf_bl bw HO.out.2)) HSD.out (by have:=countS_item HFO.out;exact Nat.le_trans this (by decide)) (by simp [wrapOp,In64]) (in64_small (by have:=HF.out;show _≤ra∧ra≤_;omega)) (in64_small (by have:=HF.out;show _≤rb - ra∧rb - ra≤_;omega)) HS64.out (Nat.zero_le _) (Nat.zero_le _)) ?_
   rintro e wk ⟨F,rfl,hbs,hst⟩
   have HR:=hid (row_stp [(ra + 1)] (HK64.out) (by simp [maxLen]) ((BS.bl HBO.out bw).hi) hst)
   have HB:=hid hbs
   have HBO:=HB
   have HW:=hid hbs.below
   clear hst hbs
   refine hK.out _ _ (kwt HW.out) (fun hHeld=>?_)
   clear hK K
   try simp only [Act.put,List.setIfInBounds_toArray,List.set_cons_zero,List.set_cons_succ]
   refine wpAnyH_ready (rs:=[10]) (by kernel_rfl) (by simp) ?_
   refine (AllReadyH.cons (o:=⟨some 64,_,_,_,_,_⟩) rfl (fun K hK=>?_) AllReadyH.nil)
   go_simp
   refine Calls.mono (cb_at (HB.out.bl bw) rr [(ra + 1)] _ _ _ _ ((HRR.out.below (bwt HW.out) (bwt HW.out).size)) (nf_lt (nf_bl bw HR.out)) (HL.out)) ?_
   rintro e wk ⟨rfl,hba⟩
   have HB:=hid hba
   have HW:=hid hba.below
   clear hba
   refine hK.out _ _ (kwt HW.out) (fun hHeld=>?_)
   clear hK K
   try simp only [Act.put,List.setIfInBounds_toArray,List.set_cons_zero,List.set_cons_succ]
   rotate_left
   go_simp
   refine hK.out _ _ (kwt HW.out) (fun hHeld=>?_)
   clear hK K
   try simp only [Act.put,List.setIfInBounds_toArray,List.set_cons_zero,List.set_cons_succ]
   refine wpAnyH_ready (rs:=[1]) (by kernel_rfl) (by simp) ?_
   refine (AllReadyH.cons (o:=⟨some 55,_,_,_,_,_⟩) rfl (fun K hK=>?_) AllReadyH.nil)
   go_simp
   refine Calls.mono (cb_build _ _ _ _ _ _ _ _ _ _ _ _ _ _ _ _ _ _ _ _ V _ (bwt HW.out)) ?_
   rintro e wk ⟨B,F,rfl,hbs,hst⟩
   try have HO:=hid (And.intro (hst.keep (nf_bl bw HO.out.1)) (hst.keep (nf_bl bw HO.out.2)))
   have HR:=hid (row_stpD [(ra + 1)] (HK64.out) (by simp [maxLen]) (fun _ h=>False.elim h) hst)
   have HB:=hid hbs
   have HBO:=HB
   have HW:=hid hbs.below
   clear hst hbs
   refine hK.out _ _ (kwt HW.out) (fun hHeld=>?_)
   clear hK K
   try simp only [Act.put,List.setIfInBounds_toArray,List.set_cons_zero,List.set_cons_succ]
   refine wpAnyH_ready (rs:=[3]) (by kernel_rfl) (by simp) ?_
   refine (AllReadyH.cons (o:=⟨some 57,_,_,_,_,_⟩) rfl (fun K hK=>?_) AllReadyH.nil)
   go_simp
   refine Calls.mono (cb_op (HB.out.bl bw) (wrapOp rr ra (rb - ra) [item] slot) _ _ _ _ (by simp) (nf_lt (nf_bl bw HO.out.1)) (nf_lt (nf_bl bw HO.out.2)) HSD.out (by have:=countS_item HFO.out;exact Nat.le_trans this (by decide)) (by simp [wrapOp,In64]) (in64_small (by have:=HF.out;show _≤ra∧ra≤_;omega)) (in64_small (by have:=HF.out;show _≤rb - ra∧rb - ra≤_;omega)) HS64.out (Nat.zero_le _) (Nat.zero_le _)) ?_
   rintro e wk ⟨F,rfl,hbs,hst⟩
   try have HR:=hid (Stp.keep hst (nf_bl bw HR.out))
   have HB:=hid hbs
   have HBO:=HB
   have HW:=hid hbs.below
   clear hst hbs
   refine hK.out _ _ (kwt HW.out) (fun hHeld=>?_)
   clear hK K
   try simp only [Act.put,List.setIfInBounds_toArray,List.set_cons_zero,List.set_cons_succ]
   refine wpAnyH_ready (rs:=[10]) (by kernel_rfl) (by simp) ?_
   refine (AllReadyH.cons (o:=⟨some 64,_,_,_,_,_⟩) rfl (fun K hK=>?_) AllReadyH.nil)
   go_simp
   refine Calls.mono (cb_at (HB.out.bl bw) rr [(ra + 1)] _ _ _ _ ((HRR.out.below (bwt HW.out) (bwt HW.out).size)) (nf_lt (nf_bl bw HR.out)) (HL.out)) ?_
   rintro e wk ⟨rfl,hba⟩
   have HB:=hid hba
   have HW:=hid hba.below
   clear hba
   refine hK.out _ _ (kwt HW.out) (fun hHeld=>?_)
   clear hK K
   try simp only [Act.put,List.setIfInBounds_toArray,List.set_cons_zero,List.set_cons_succ]
   rotate_left
   all_goals
    refine wpAnyH_take (i:=11) (oi:=⟨some 13,_,_,_,_,_⟩) (v:=_) rfl (by kernel_rfl) (by kernel_rfl) (by kernel_rfl) (fun _ _ _ h=>h) (Or.inl ⟨by rfl,fun w hS=>by clear hS;go_simp;try with_reducible rfl⟩) hHeld ?_
    try simp only [Act.put,List.setIfInBounds_toArray,List.set_cons_zero,List.set_cons_succ]
    refine wpAnyH_done (by kernel_rfl) ?_ _
    refine NoPanic.normal ?_
   all_goals
    go_wp2_with fail
    go_meet
    exact ⟨_,rfl,HB.out⟩
  case rest =>
  obtain ⟨B,rfl,hba⟩:=hcut
  have HB:=hid hba
  have HW:=hid hba.below
  clear hba
  generalize wc = wk at *
  have HO4:=hid (HO4.out.below HW.out)
  have HOD:=hid (HOD.out.below HW.out)
  have HIV:=hid (HIV.out.below HW.out HW.out.size)
  have j3:wk.cell? ⟨w.heap.size + 1 + 1,3,none⟩ = some (.slice Ai item.kids.length ci):=HO4.out.cell 3
  have q3:wk.cell? ⟨go,3,none⟩ = some (.int .i64 (rb - ra)):=HOD.out.cell 3
  have q1:wk.cell? ⟨go,1,none⟩ = some (.slice Ar rr.length cr):=HOD.out.cell 1
  have q2:wk.cell? ⟨go,2,none⟩ = some (.int .i64 ra):=HOD.out.cell 2
  clear v2 HK64 HL HO HSD HSX HON
  go_wp2_with fail
  go_loopw [68] (fun i wr=>wr = wk∧∃ k:Nat,k≤item.kids.length∧i = .int .i64 k∧emptyS (item.kids.drop k) (k:Int) slot z = E9) (fun i _=>item.kids.length - (intOf i).toNat)
  case atStart=>exact ⟨rfl,0,Nat.zero_le _,rfl,HE9.out⟩
  case round =>
   obtain ⟨hwr,k,hk,rfl,hrest⟩:=hrel
   rw [hwr]
   clear hwr
   have HRS:=hid hrest
   clear hrest
   by_cases hlt:k < item.kids.length
   ·obtain ⟨_,_,rs,hq,hcap,hmax,hrd,hls⟩:=HIV.out
    cases hq
    obtain ⟨g,o,B9,bc,bs,rfl,hg,c0,c1,c2,c3,_,_,_,hc5,hc6,hrd9,hls9⟩:=trees_at hrd hls hlt
    have HT:=hid (emptyS_drop hlt slot z)
    have i0:(0:Int)≤(k:Int):=by omega
    have i1:(k:Int) < (item.kids.length:Int):=by omega
    have HKB:Hid (item.kids.length≤1000):=by have h1:=countS_item HFO.out;have h2:=kids_le_count item;have h3:countsS [item] = countS item + 0:=rfl;show _≤_;omega
    have hlen:=HKB.out
    clear hrd hls hcap hmax hc5 hc6 hrd9 hls9 hg c0 c1 c2
    obtain ⟨nk,hnk⟩:∃ n,item.kids[k].kids.length = n:=⟨_,rfl⟩
    rw [hnk] at c3 HT
    clear hnk
    by_cases h1:nk = 0
    ·rw [h1] at c3
     have i2:(((0:Nat):Int) == 0) = true:=rfl
     by_cases h2:(k:Int) = slot
     ·have i3:((k:Int) != slot) = false:=by simp [h2]
      cases z
      case false =>
       have HF2:Hid (emptyS (item.kids.drop (k + 1)) ((k + 1:Nat):Int) slot false = E9):=by show _ = _;rw [← HRS.out,HT.out,if_neg (by simp [h2])]
       clear h1 h2
       go_wp2_with fail
       go_roundw
       case rel=>exact ⟨by trivial,k + 1,by omega,by go_num,HF2.out⟩
       case measure=>simp [intOf];omega
      case true =>
       have HF2:Hid (E9 = some (k:Int)):=by show _ = _;rw [← HRS.out,HT.out,if_pos ⟨h1,.inr rfl⟩]
       clear h1 h2
       have HRF:Hid (RES = doneR t p m [(wrapOp rr ra (rb - ra) [item] slot)] (rr ++ [ra,(k:Int),0]) []):=by show _ = _;rw [HR.out,HF2.out];rfl
       have H64:Hid (∀ i ∈ [ra,(k:Int),0],In64 i):=fun i hi=>by
        have:=HF.out
        have:=HKB.out
        simp only [List.mem_cons,List.not_mem_nil,or_false] at hi
        rcases hi with rfl | rfl | rfl <;> exact in64_small (by omega)
       have HL3:Hid (rr.length + [ra,(k:Int),0].length≤100000):=by have:=HF.out;show _ + 3≤_;omega
       go_wp2_with (first | (go_at_call 42;refine Calls.mono (cb_at2 (HB.out.bl (blA wk _)) rr [ra,(k:Int),0] Ar _ cr _ (HRR.out.below (HW.out.trans ((blA wk _).mono HW.out.size)) (HW.out.trans ((blA wk _).mono HW.out.size)).size) (row_lt _ [ra,(k:Int),0] _ H64.out (by simp [maxLen])) HL3.out) ?_;rintro e w5 ⟨rfl,hba⟩;have HB:=hid hba;clear hba) | fail)
       refine Calls.mono (HDN.out _ _ _ HB.out HRF.out) ?_
       rintro e wz hrec
       have HREC:=hid hrec
       obtain ⟨Ao9,co9,Ap9,cp9,Am9,cm9,Aap9,cap9,Aam9,cam9,rfl,_,_,_,_,_,hbw⟩:=hrec
       have HGW:=hid (HG.out.below hbw)
       clear hbw
       simp only []
       go_at_K
       repeat (first | (refine wpList_store_row rfl 36 (.tmp 8) (.tmp 100) rfl (w.heap.size + 1 + 1 + 1) #[.slice Ao9 RES.1.ops.length co9,.slice Ap9 RES.1.bp.length cp9,.slice Am9 RES.1.bm.length cm9,.slice Aap9 RES.1.ap.length cap9,.slice Aam9 RES.1.am.length cam9] rfl rfl 36 _ HGW.out (by kernel_rfl) (by simp) (by simp [Value.oneCell']) ?_) | go_values | go_skip | go_guarded | go_step | go_upon)
       refine bodyPost_ret (v:=.tuple #[.agg #[.slice Ao9 RES.1.ops.length co9,.slice Ap9 RES.1.bp.length cp9,.slice Am9 RES.1.bm.length cm9,.slice Aap9 RES.1.ap.length cap9,.slice Aam9 RES.1.am.length cam9],.int .i64 RES.2]) (results_row_tmp Tryz.results23 _ _ _ (w.heap.size + 1 + 1 + 1) 36 _ (0,0) _ rfl (HGW.out.row _) rfl Tryz.underlying36 (by kernel_rfl) _ rfl) rfl ?_
       exact RecF.put (arr:=#[]) HREC.out HGW.out (Kept.setRow _ _ _) (size_setRow _ _ _) HWB.out (by omega)
     ·have i3:((k:Int) != slot) = true:=by simp [h2]
      have HF2:Hid (E9 = some (k:Int)):=by show _ = _;rw [← HRS.out,HT.out,if_pos ⟨h1,.inl h2⟩]
      clear h1 h2
      have HRF:Hid (RES = doneR t p m [(wrapOp rr ra (rb - ra) [item] slot)] (rr ++ [ra,(k:Int),0]) []):=by show _ = _;rw [HR.out,HF2.out];rfl
      have H64:Hid (∀ i ∈ [ra,(k:Int),0],In64 i):=fun i hi=>by
       have:=HF.out
       have:=HKB.out
       simp only [List.mem_cons,List.not_mem_nil,or_false] at hi
       rcases hi with rfl | rfl | rfl <;> exact in64_small (by omega)
      have HL3:Hid (rr.length + [ra,(k:Int),0].length≤100000):=by have:=HF.out;show _ + 3≤_;omega
      go_wp2_with (first | (go_at_call 42;refine Calls.mono (cb_at2 (HB.out.bl (blA wk _)) rr [ra,(k:Int),0] Ar _ cr _ (HRR.out.below (HW.out.trans ((blA wk _).mono HW.out.size)) (HW.out.trans ((blA wk _).mono HW.out.size)).size) (row_lt _ [ra,(k:Int),0] _ H64.out (by simp [maxLen])) HL3.out) ?_;rintro e w5 ⟨rfl,hba⟩;have HB:=hid hba;clear hba) | fail)
      refine Calls.mono (HDN.out _ _ _ HB.out HRF.out) ?_
      rintro e wz hrec
      have HREC:=hid hrec
      obtain ⟨Ao9,co9,Ap9,cp9,Am9,cm9,Aap9,cap9,Aam9,cam9,rfl,_,_,_,_,_,hbw⟩:=hrec
      have HGW:=hid (HG.out.below hbw)
      clear hbw
      simp only []
      go_at_K
      repeat (first | (refine wpList_store_row rfl 36 (.tmp 8) (.tmp 100) rfl (w.heap.size + 1 + 1 + 1) #[.slice Ao9 RES.1.ops.length co9,.slice Ap9 RES.1.bp.length cp9,.slice Am9 RES.1.bm.length cm9,.slice Aap9 RES.1.ap.length cap9,.slice Aam9 RES.1.am.length cam9] rfl rfl 36 _ HGW.out (by kernel_rfl) (by simp) (by simp [Value.oneCell']) ?_) | go_values | go_skip | go_guarded | go_step | go_upon)
      refine bodyPost_ret (v:=.tuple #[.agg #[.slice Ao9 RES.1.ops.length co9,.slice Ap9 RES.1.bp.length cp9,.slice Am9 RES.1.bm.length cm9,.slice Aap9 RES.1.ap.length cap9,.slice Aam9 RES.1.am.length cam9],.int .i64 RES.2]) (results_row_tmp Tryz.results23 _ _ _ (w.heap.size + 1 + 1 + 1) 36 _ (0,0) _ rfl (HGW.out.row _) rfl Tryz.underlying36 (by kernel_rfl) _ rfl) rfl ?_
      exact RecF.put (arr:=#[]) HREC.out HGW.out (Kept.setRow _ _ _) (size_setRow _ _ _) HWB.out (by omega)
    ·have i2:((nk:Int) == 0) = false:=by rw [beq_eq_false_iff_ne];omega
     have HF2:Hid (emptyS (item.kids.drop (k + 1)) ((k + 1:Nat):Int) slot z = E9):=by show _ = _;rw [← HRS.out,HT.out,if_neg (by simp [h1])]
     clear h1
     go_wp2_with fail
     go_roundw
     case rel=>exact ⟨by trivial,k + 1,by omega,by go_num,HF2.out⟩
     case measure=>simp [intOf];omega
   ·have HF2:Hid (E9 = none):=by show _ = _;rw [← HRS.out,emptyS_end (by omega)]
    have HRF:Hid (RES = doneR t p m [(wrapOp rr ra (rb - ra) [item] slot)] (rr ++ [ra + 1]) []):=by show _ = _;rw [HR.out,HF2.out];rfl
    have i1:¬ (k:Int) < (item.kids.length:Int):=by omega
    go_wp2_with fail
    refine Calls.mono (HDN.out _ _ _ HB.out HRF.out) ?_
    rintro e wz hrec
    have HREC:=hid hrec
    obtain ⟨Ao9,co9,Ap9,cp9,Am9,cm9,Aap9,cap9,Aam9,cam9,rfl,_,_,_,_,_,hbw⟩:=hrec
    have HGW:=hid (HG.out.below hbw)
    clear hbw
    simp only []
    go_at_K
    repeat (first | (refine wpList_store_row rfl 36 (.tmp 8) (.tmp 100) rfl (w.heap.size + 1 + 1 + 1) #[.slice Ao9 RES.1.ops.length co9,.slice Ap9 RES.1.bp.length cp9,.slice Am9 RES.1.bm.length cm9,.slice Aap9 RES.1.ap.length cap9,.slice Aam9 RES.1.am.length cam9] rfl rfl 36 _ HGW.out (by kernel_rfl) (by simp) (by simp [Value.oneCell']) ?_) | go_values | go_skip | go_guarded | go_step | go_upon)
    refine bodyPost_ret (v:=.tuple #[.agg #[.slice Ao9 RES.1.ops.length co9,.slice Ap9 RES.1.bp.length cp9,.slice Am9 RES.1.bm.length cm9,.slice Aap9 RES.1.ap.length cap9,.slice Aam9 RES.1.am.length cam9],.int .i64 RES.2]) (results_row_tmp Tryz.results23 _ _ _ (w.heap.size + 1 + 1 + 1) 36 _ (0,0) _ rfl (HGW.out.row _) rfl Tryz.underlying36 (by kernel_rfl) _ rfl) rfl ?_
    exact RecF.put (arr:=#[]) HREC.out HGW.out (Kept.setRow _ _ _) (size_setRow _ _ _) HWB.out (by omega)
end Go.Proofs.YtbjcioknfjofkaaGreat
