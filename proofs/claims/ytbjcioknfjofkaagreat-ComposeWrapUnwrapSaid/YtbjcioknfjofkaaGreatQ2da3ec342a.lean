/- Texts put together. -/
import Derived.Test.YtbjcioknfjofkaaGreatQ8109803152
import Derived.Test.YtbjcioknfjofkaaGreatQ78f390d81d
import Derived.Test.YtbjcioknfjofkaaGreatQ6a6e0ab96f
set_option linter.unusedVariables false
set_option linter.unusedSimpArgs false
set_option maxRecDepth 100000
namespace Go.Proofs.YtbjcioknfjofkaaGreat
open Go.RowKit
theorem new_nf {α:Type} {E:Enc α} {F:Nat→Prop} {X w':World} {xs:List α} {v:Value} (hhi:∀ k,F k→k < X.heap.size) (h:SliceR E w' (fun k=>X.heap.size≤k∧k < w'.heap.size) xs v):SliceR E w' (NF F w') xs v :=
 h.keep (fun _ _=>rfl) (fun k hk=>⟨hk.2,fun e=>absurd (hhi k e) (by omega)⟩)
theorem cunw_cases (t:Tree) (p m:List Int):((ofS t p m).2≠0→cunwrapS t p m = (recZ,(ofS t p m).2))∧((ofS t p m).2 = 0→aroS t p = none→cunwrapS t p m = (recZ,8)) ∧
  (∀ q2 i (s':Nat) it its,(ofS t p m).2 = 0→aroS t p = some ⟨q2,i,(s':Int),it⟩→(h:s' < it.kids.length)→it.kids[s'] = rowT its→cunwrapS t p m = doneR t p m [⟨4,q2,i,(its.length:Int),[filledS it s' []],(s':Int),noT,noT⟩] (refMapS ⟨4,q2,i,(its.length:Int),[filledS it s' []],(s':Int),noT,noT⟩ p false) []):=by
 refine ⟨fun h=>?_,fun h h1=>?_,fun q2 i s' it its h h1 h2 h3=>?_⟩
 ·unfold cunwrapS;rw [if_pos h]
 ·unfold cunwrapS;rw [if_neg (by simp [h]),h1]
 ·unfold cunwrapS
  rw [if_neg (by simp [h]),h1]
  simp only
  have hk:(kidS it (s':Int)).kids = its:=by rw [kid_get (by simpa using h2)];simp only [Int.toNat_natCast];rw [h3];rfl
  have hu:unwS ⟨q2,i,(s':Int),it⟩ = ⟨4,q2,i,(its.length:Int),[filledS it s' []],(s':Int),noT,noT⟩:=by
   unfold unwS
   simp only [hk,Int.toNat_natCast]
  rw [hu]
  rfl
theorem st_short {w:World} {d:StD} (h:StR w d):d.p.length≤24∧∀ x ∈ d.p,Bd 1152921504606846976 x:=by
 have hf:=st_facts h
 obtain ⟨h1,h2⟩:=posIn_bd d.t d.p hf.2.2.2.2.2.2.1
 have h3:=valid_count hf.1
 refine ⟨by omega,fun x hx=>?_⟩
 have:=h2 x hx
 unfold Bd
 omega
set_option maxHeartbeats 16000000 in
theorem cUnwrap_any (t:Tree) (p m:List Int) (A Ap Am:Option Addr) (cap cp cm:Nat) (w:World) (hv:SliceR treeE w (Lt w.heap.size) t.kids (.slice A t.kids.length cap)) (hok:NodeOk t) (hct:countS t≤900000) (hp:IntsR w (Lt w.heap.size) p (.slice Ap p.length cp)) (hm:IntsR w (Lt w.heap.size) m (.slice Am m.length cm)) (hpl:p.length≤90000) (hml:m.length≤90000) :
  Calls Tryz.prog 25 #[.agg #[.int .i64 t.kind,.string t.text,.int .i64 t.cols,.slice A t.kids.length cap],.agg #[.slice Ap p.length cp,.slice Am m.length cm]] w (RecF w (cunwrapS t p m)):=by
 obtain ⟨W0,hW0⟩:∃ W0,((w.alloc (.cells #[.int .i64 t.kind,.string t.text,.int .i64 t.cols,.slice A t.kids.length cap] 24)).alloc (.cells #[.slice Ap p.length cp,.slice Am m.length cm] 33)).alloc (.cells #[.slice none 0 0,.slice none 0 0,.slice none 0 0,.slice none 0 0,.slice none 0 0] 36) = W0:=⟨_,rfl⟩
 have hb0:Below w.heap.size w W0:=by rw [← hW0];exact blAlloc (blAlloc (blA _ _) _) _
 have ho1:HasObj W0 w.heap.size (.cells #[.int .i64 t.kind,.string t.text,.int .i64 t.cols,.slice A t.kids.length cap] 24):=by rw [← hW0];exact ((HasObj.at0 _ _).al _).al _
 have ho2:HasObj W0 (w.heap.size + 1) (.cells #[.slice Ap p.length cp,.slice Am m.length cm] 33):=by rw [← hW0];exact (HasObj.at1 _ _ _).al _
 have HO1:=hid ho1
 have HO2:=hid ho2
 have HO3:Hid (HasObj W0 (w.heap.size + 1 + 1) (.cells #[.slice none 0 0,.slice none 0 0,.slice none 0 0,.slice none 0 0,.slice none 0 0] 36)):=by show HasObj _ _ _;rw [← hW0];exact HasObj.at2 _ _ _ _
 have HB0:=hid hb0
 have CELL:Hid (∀ W,HasObj W w.heap.size (.cells #[.int .i64 t.kind,.string t.text,.int .i64 t.cols,.slice A t.kids.length cap] 24)→HasObj W (w.heap.size + 1) (.cells #[.slice Ap p.length cp,.slice Am m.length cm] 33)→W.cell? ⟨w.heap.size,0,none⟩ = some (.int .i64 t.kind)∧W.cell? ⟨w.heap.size,1,none⟩ = some (.string t.text)∧W.cell? ⟨w.heap.size,2,none⟩ = some (.int .i64 t.cols)∧W.cell? ⟨w.heap.size,3,none⟩ = some (.slice A t.kids.length cap)∧W.cell? ⟨w.heap.size + 1,0,none⟩ = some (.slice Ap p.length cp)∧W.cell? ⟨w.heap.size + 1,1,none⟩ = some (.slice Am m.length cm)):=fun W h1 h2=>⟨h1.cell 0,h1.cell 1,h1.cell 2,h1.cell 3,h2.cell 0,h2.cell 1⟩
 have CL:Hid (∀ W,Below w.heap.size w W→Calls Tryz.prog 37 #[.agg #[.int .i64 t.kind,.string t.text,.int .i64 t.cols,.slice A t.kids.length cap],.agg #[.slice Ap p.length cp,.slice Am m.length cm]] W _):=fun W hW=>look_st t p m A Ap Am cap cp cm W (hv.below hW hW.size) hok hct (hp.below hW hW.size) (hm.below hW hW.size) hpl hml
 have HE:=hid (cunw_cases t p m)
 obtain ⟨RES,hRES⟩:∃ RES,cunwrapS t p m = RES:=⟨_,rfl⟩
 rw [hRES] at HE ⊢
 obtain ⟨m0,m1,m2,m3,n0,n1⟩:=CELL.out W0 ho1 ho2
 clear hv hok hct hp hm hpl hml hb0 ho1 ho2 hRES
 go_enter Tryz.func25,Tryz.ntmps25
 go_wp2_with fail
 refine (CL.out _ HB0.out).mono ?_
 rintro e w1 ⟨hb1,h1⟩
 have HG:=hid (HO3.out.below hb1)
 have HO1:=hid (HO1.out.below hb1)
 have HO2:=hid (HO2.out.below hb1)
 have HB1:=hid (HB0.out.trans (hb1.mono HB0.out.size))
 clear hb1 m0 m1 m2 m3 n0 n1 CL HB0 hW0 HO3
 rcases h1 with ⟨he,rfl⟩ | ⟨he,rr,Ar,cr,ra,rb,q,A1,o,its,Ai,ci,ar,q2,A2,c2,i,s,it,A3,c3,rfl,hst⟩
 ·have HR:=hid (HE.out.1 he)
  have hse:((ofS t p m).2 != 0) = true:=by simp [he]
  clear HE he
  generalize (ofS t p m).2 = se at *
  go_upto_region 2 with (first
   | (refine wpList_store_row rfl 73 (.tmp 6) (.tmp 13) rfl w1.heap.size _ rfl rfl 73 _ (HasObj.at0 _ _) (by kernel_rfl) (by simp) (by simp [Value.oneCell']) ?_)
   | fail)
  generalize hX:World.setRow _ _ _ = X
  have HBX:Hid (Below w.heap.size w X):=by show Below _ _ _;rw [← hX];exact below_setRowB (HB1.out.trans ((blA w1 _).mono HB1.out.size)) HB1.out.size _
  have HG:Hid (HasObj X (w.heap.size + 1 + 1) (.cells #[.slice none 0 0,.slice none 0 0,.slice none 0 0,.slice none 0 0,.slice none 0 0] 36)):=by show HasObj _ _ _;rw [← hX];exact (setRow_other _ _ _ _ (Nat.ne_of_lt HG.out.lt)).trans (HG.out.al _)
  clear hX
  go_wp2_with (first
   | (refine wpList_store_row rfl 36 (.tmp 4) (.tmp 17) rfl (w.heap.size + 1 + 1) _ rfl rfl 36 _ HG.out (by kernel_rfl) (by simp) (by simp [Value.oneCell']) ?_)
   | fail)
  refine bodyPost_ret (v:=.tuple #[.agg #[.slice none 0 0,.slice none 0 0,.slice none 0 0,.slice none 0 0,.slice none 0 0],.int .i64 se]) (results_row_tmp Tryz.results25 _ _ _ (w.heap.size + 1 + 1) 36 _ (0,0) _ rfl (HG.out.row _) rfl Tryz.underlying36 (by kernel_rfl) _ rfl) rfl ?_
  rw [HR.out]
  exact recF_zero se (below_setRowB HBX.out (by omega) _)
 ·have hof:(ofS t p m).2 = 0:=by rw [hst.of]
  have HSH:=hid (st_short hst)
  have HA0:=hid hst.ar0
  have HA1:=hid hst.ar1
  simp only at HA0 HA1 HSH
  have HR8:=hid (HE.out.2.1 hof)
  have HRN:=hid (fun a b c d e=>HE.out.2.2 a b c d e hof)
  simp only [stC]
  clear HE he hof
  go_upto_region 2 with (first
   | (refine wpList_store_row rfl 73 (.tmp 6) (.tmp 13) rfl w1.heap.size _ rfl rfl 73 _ (HasObj.at0 _ _) (by kernel_rfl) (by simp) (by simp [Value.oneCell']) ?_)
   | fail)
  generalize hX:World.setRow _ _ _ = X
  have hbx:Below w1.heap.size w1 X:=by rw [← hX];exact below_setRowB (blA w1 _) (Nat.le_refl _) _
  have HSX:Hid (HasObj X w1.heap.size (.cells #[.int .i64 t.kind,.string t.text,.int .i64 t.cols,.slice A t.kids.length cap,.slice Ap p.length cp,.slice Am m.length cm,.slice Ar rr.length cr,.int .i64 ra,.int .i64 rb,.slice A1 q.length cp,.int .i64 o,.slice Ai its.length ci,.bool ar,.slice A2 q2.length c2,.int .i64 i,.int .i64 s,.int .i64 it.kind,.string it.text,.int .i64 it.cols,.slice A3 it.kids.length c3] 73)):=by show HasObj _ _ _;rw [← hX];exact (HasObj.at0 w1 _).row _
  have HGO:=HG
  have HG:=hid (HG.out.below hbx)
  have HO2:=hid (HO2.out.below hbx)
  have HWB:=hid (HB1.out.trans (hbx.mono HB1.out.size))
  have HST:=hid (hst.bl hbx)
  have hf:=st_facts hst
  simp only at hf
  have HF:=hid hf
  have HGS:Hid (w1.heap.size≠w.heap.size + 1 + 1):=fun e=>Nat.lt_irrefl _ (e ▸ HGO.out.lt)
  obtain ⟨gs,hgs⟩:∃ gs,w1.heap.size = gs:=⟨_,rfl⟩
  simp only [hgs] at HSX HGS ⊢
  clear hX hbx hst hgs HB1 hf HO1 HGO
  cases ar
  case false =>
   have HR:=hid (HR8.out (HA0.out rfl))
   have s12:X.cell? ⟨gs,12,none⟩ = some (.bool false):=HSX.out.cell 12
   clear HR8 HRN HA0 HA1
   go_wp2_with (first
    | (refine wpList_store_row rfl 36 (.tmp 4) (.tmp 22) rfl (w.heap.size + 1 + 1) _ rfl rfl 36 _ HG.out (by kernel_rfl) (by simp) (by simp [Value.oneCell']) ?_)
    | fail)
   refine bodyPost_ret (v:=.tuple #[.agg #[.slice none 0 0,.slice none 0 0,.slice none 0 0,.slice none 0 0,.slice none 0 0],.int .i64 8]) (results_row_tmp Tryz.results25 _ _ _ (w.heap.size + 1 + 1) 36 _ (0,0) _ rfl (HG.out.row _) rfl Tryz.underlying36 (by kernel_rfl) _ rfl) rfl ?_
   rw [HR.out]
   exact recF_zero 8 (below_setRowB HWB.out (by omega) _)
  case true =>
  have s12:X.cell? ⟨gs,12,none⟩ = some (.bool true):=HSX.out.cell 12
  obtain ⟨a1,nok,a3,a4,s',rfl,a6,a7⟩:=HA1.out rfl
  have HR:=hid (HRN.out q2 i s' it its a1 a6 a7)
  have hq:p.length = q2.length + 3:=by have h1:=HST.out.pe;simp only at h1;rw [h1,a4];simp
  have HBD:Hid (q2.length≤60∧p.length≤24∧0≤i∧i≤1000∧its.length≤1000∧(s':Int)≤1000):=⟨by have:=HSH.out;omega,HSH.out.1,(HF.out.2.2.2.2.2.2.2.1 rfl).1,(HF.out.2.2.2.2.2.2.2.1 rfl).2.1,HF.out.2.1,by have:=kids_le_count it;omega⟩
  have HFC:Hid (countsS [filledS it s' []]≤1000000):=by
   have h9:=repl_count it s' (rowT []) 1 (fun _=>by show 1 + 0≤_;omega)
   show countS (replS it s' (rowT [])) + 0≤_
   omega
  have HUN:Hid (∀ W,Below X.heap.size X W→Calls Tryz.prog 55 #[.agg #[.int .i64 t.kind,.string t.text,.int .i64 t.cols,.slice A t.kids.length cap,.slice Ap p.length cp,.slice Am m.length cm,.slice Ar rr.length cr,.int .i64 ra,.int .i64 rb,.slice A1 q.length cp,.int .i64 o,.slice Ai its.length ci,.bool true,.slice A2 q2.length c2,.int .i64 i,.int .i64 (s':Int),.int .i64 it.kind,.string it.text,.int .i64 it.cols,.slice A3 it.kids.length c3]] W (OpP (Lt W.heap.size) W ⟨4,q2,i,its.length,[filledS it s' []],(s':Int),noT,noT⟩)):=fun W hW =>
   unw_any (Lt W.heap.size) it its q2 i s' A2 A3 c2 c3 _ _ _ _ _ _ _ _ _ _ _ _ _ W (HST.out.bl hW).it nok (by omega) ((HST.out.bl hW).q2.keep (fun _ _=>rfl) (fun k hk=>⟨hk,hk⟩)) a6 a7
  generalize filledS it s' [] = FL at *
  obtain ⟨pos,hpos⟩:∃ pos,refMapS ⟨4,q2,i,(its.length:Int),[FL],(s':Int),noT,noT⟩ p false = pos:=⟨_,rfl⟩
  rw [hpos] at HR
  have HMQ:Hid (mapS ⟨4,q2,i,(its.length:Int),[FL],(s':Int),noT,noT⟩ p false = pos):=(map_eq _ _ _).trans hpos
  have HL:Hid (pos.length + ([]:List Int).length≤100000):=by
   have h9:=mapS_len ⟨4,q2,i,(its.length:Int),[FL],(s':Int),noT,noT⟩ p false HBD.out.1
   rw [HMQ.out] at h9
   have:=HBD.out
   show _ + 0≤_
   omega
  have HPX:=hid HSH.out.2
  clear HR8 HRN HA0 HA1 a1 nok a3 a4 a6 a7 hq hpos HSH HF
  go_upto_region 7 with (first
   | (refine wpList_load_row rfl 73 (.tmp 6) rfl gs rfl 73 _ (0,0) _ HSX.out Tryz.underlying73 rfl (by kernel_rfl) ?_)
   | (go_at_call 55;refine Calls.mono (HUN.out _ (Below.refl _ _)) ?_;rintro e w9 ⟨Ao,co,An,cn,rfl,hro,hno9,hb9⟩;have HRO:=hid (And.intro (SliceR.keep hro (fun _ _=>rfl) (fun k hk=>hk.1:∀ k,_→Lt w9.heap.size k)) (SliceR.keep hno9 (fun _ _=>rfl) (fun k hk=>hk.1:∀ k,_→Lt w9.heap.size k)));have HB9:=hid hb9;clear hro hno9 hb9)
   | (refine wpList_store_row rfl 67 (.tmp 8) (.tmp 24) rfl w9.heap.size _ rfl rfl 67 _ (HasObj.at0 _ _) (by kernel_rfl) (by simp) (by simp [Value.oneCell']) ?_)
   | fail)
  generalize hV:World.setRow _ _ _ = V
  have hbx:Below w9.heap.size w9 V:=by rw [← hV];exact below_setRowB (blA w9 _) (Nat.le_refl _) _
  have HOD:Hid (HasObj V w9.heap.size (.cells #[.int .i64 4,.slice Ao q2.length co,.int .i64 i,.int .i64 (its.length:Int),.slice An [FL].length cn,.int .i64 (s':Int),.string noT,.string noT] 67)):=by show HasObj _ _ _;rw [← hV];exact (HasObj.at0 w9 _).row _
  have HG:=hid (HG.out.below HB9.out)
  have HNO:Hid (w9.heap.size≠w.heap.size + 1 + 1):=fun e=>Nat.lt_irrefl _ (e ▸ HG.out.lt)
  have HG:=hid (HG.out.below hbx)
  have hb9x:=HB9.out.trans (hbx.mono HB9.out.size)
  have HO2:=hid (HO2.out.below hb9x)
  have HSX:=hid (HSX.out.below hb9x)
  have HNS:=HGS
  have HST:=hid (HST.out.bl hb9x)
  have HRO:=hid (And.intro (HRO.out.1.below hbx hbx.size) (HRO.out.2.below hbx hbx.size))
  have HWB:=hid (HWB.out.trans (hb9x.mono HWB.out.size))
  have HO:Hid (IntsR V (NF (fun _=>False) V) q2 (.slice Ao q2.length co)∧SliceR treeE V (NF (fun _=>False) V) [FL] (.slice An [FL].length cn)):=⟨HRO.out.1.keep (fun _ _=>rfl) (fun k hk=>⟨hk,id⟩),HRO.out.2.keep (fun _ _=>rfl) (fun k hk=>⟨hk,id⟩)⟩
  obtain ⟨gd,hgd⟩:∃ gd,w9.heap.size = gd:=⟨_,rfl⟩
  simp only [hgd] at HOD HNO ⊢
  have HW:Hid (Below V.heap.size V V):=hid (Below.refl _ _)
  have HDN:=hid (fun W B (hW:Below V.heap.size V W) hb=>(st_done HST.out hW hb (by simp)).mono (fun e w' (h:RecF V _ e w')=>(by rw [HR.out];exact h:RecF V RES e w')):∀ W B,Below V.heap.size V W→BA V W B #[.int .i64 t.kind,.string t.text,.int .i64 t.cols,.slice A t.kids.length cap,.slice Ap p.length cp,.slice Am m.length cm,.slice Ar rr.length cr,.int .i64 ra,.int .i64 rb,.slice A1 q.length cp,.int .i64 o,.slice Ai its.length ci,.bool true,.slice A2 q2.length c2,.int .i64 i,.int .i64 (s':Int),.int .i64 it.kind,.string it.text,.int .i64 it.cols,.slice A3 it.kids.length c3] [⟨4,q2,i,(its.length:Int),[FL],(s':Int),noT,noT⟩] pos []→Calls Tryz.prog 43 #[.pointer (some ⟨B,0,none⟩)] W (RecF V RES))
  have HMP:Hid (∀ W,Below V.heap.size V W→Calls Tryz.prog 56 #[.agg #[.int .i64 4,.slice Ao q2.length co,.int .i64 i,.int .i64 (its.length:Int),.slice An [FL].length cn,.int .i64 (s':Int),.string noT,.string noT],.slice Ap p.length cp,.bool false] W (NewPost W pos)):=fun W hW=>by
   have h9:=mapN_any ⟨4,q2,i,(its.length:Int),[FL],(s':Int),noT,noT⟩ p false Ao An Ap co cn cp W ⟨by have:=HBD.out;unfold Bd;simp only;omega,by have:=HBD.out;unfold Bd;simp only;omega,by have:=HBD.out;unfold Bd;simp only;omega,by simp,by have:=HBD.out;simp only;omega⟩ (HRO.out.1.below hW hW.size) ((HST.out.bl hW).p) (by have:=HBD.out;omega) HPX.out
   rwa [HMQ.out] at h9
  clear hV hbx hgd hb9x HB9 HUN HGS s12
  refine wp_region_noPanic ?_
  refine wp_region_held_drew (S:=fun w'=>Kept (fun k=>k = w.heap.size + 1 + 1) V w') (by kernel_rfl) (kwt HW.out) (fun hHeld=>?_)
  refine wpAnyH_take (i:=0) (oi:=⟨some 25,_,_,_,_,_⟩) (v:=_) rfl (by kernel_rfl) (by kernel_rfl) (by kernel_rfl) (fun _ _ _ h=>h) (yif_row 73 (.tmp 6) rfl (by rfl) _ rfl (fun w hS=>hS.obj HSX.out HNS.out) Tryz.underlying73 (by kernel_rfl)) hHeld ?_
  try simp only [Act.put,List.setIfInBounds_toArray,List.set_cons_zero,List.set_cons_succ]
  refine wpAnyH_take (i:=2) (oi:=⟨some 27,_,_,_,_,_⟩) (v:=_) rfl (by kernel_rfl) (by kernel_rfl) (by kernel_rfl) (fun _ _ _ h=>h) (yif_row 67 (.tmp 8) rfl (by rfl) _ rfl (fun w hS=>hS.obj HOD.out HNO.out) Tryz.underlying67 (by kernel_rfl)) hHeld ?_
  try simp only [Act.put,List.setIfInBounds_toArray,List.set_cons_zero,List.set_cons_succ]
  refine wpAnyH_take (i:=4) (oi:=⟨some 29,_,_,_,_,_⟩) (v:=_) rfl (by kernel_rfl) (by kernel_rfl) (by kernel_rfl) (fun _ _ _ h=>h) (yif_row 67 (.tmp 8) rfl (by rfl) _ rfl (fun w hS=>hS.obj HOD.out HNO.out) Tryz.underlying67 (by kernel_rfl)) hHeld ?_
  try simp only [Act.put,List.setIfInBounds_toArray,List.set_cons_zero,List.set_cons_succ]
  refine wpAnyH_take (i:=5) (oi:=⟨some 30,_,_,_,_,_⟩) (v:=_) rfl (by kernel_rfl) (by kernel_rfl) (by kernel_rfl) (fun _ _ _ h=>h) (Or.inl ⟨by rfl,fun w hS=>by clear hS;go_simp;try with_reducible rfl⟩) hHeld ?_
  try simp only [Act.put,List.setIfInBounds_toArray,List.set_cons_zero,List.set_cons_succ]
  refine wpAnyH_take (i:=6) (oi:=⟨some 31,_,_,_,_,_⟩) (v:=_) rfl (by kernel_rfl) (by kernel_rfl) (by kernel_rfl) (fun _ _ _ h=>h) (Or.inl ⟨by rfl,fun W hS=>by have h:W.cell? ⟨(w.heap.size + 1),0,none⟩ = some (.slice Ap p.length cp):=(hS.obj HO2.out (Nat.ne_of_lt (Nat.lt_succ_self _))).cell 0;clear hS;go_simp;try with_reducible rfl⟩) hHeld ?_
  try simp only [Act.put,List.setIfInBounds_toArray,List.set_cons_zero,List.set_cons_succ]
  refine wpAnyH_ready (rs:=[1]) (by kernel_rfl) (by simp) ?_
  refine (AllReadyH.cons (o:=⟨some 26,_,_,_,_,_⟩) rfl (fun K hK=>?_) AllReadyH.nil)
  go_simp
  refine Calls.mono (cb_build _ _ _ _ _ _ _ _ _ _ _ _ _ _ _ _ _ _ _ _ V _ (bwt HW.out)) ?_
  rintro e wk ⟨B,F,rfl,hbs,hst⟩
  try have HO:=hid (And.intro (hst.keep (nf_bl bw HO.out.1)) (hst.keep (nf_bl bw HO.out.2)))
  try have HR:=hid (Stp.keep hst (nf_bl bw HR.out))
  have HB:=hid hbs
  have HBO:=HB
  have HW:=hid hbs.below
  clear hst hbs
  refine hK.out _ _ (kwt HW.out) (fun hHeld=>?_)
  clear hK K
  try simp only [Act.put,List.setIfInBounds_toArray,List.set_cons_zero,List.set_cons_succ]
  refine wpAnyH_ready (rs:=[3]) (by kernel_rfl) (by simp) ?_
  refine (AllReadyH.cons (o:=⟨some 28,_,_,_,_,_⟩) rfl (fun K hK=>?_) AllReadyH.nil)
  go_simp
  refine Calls.mono (cb_op (HB.out.bl bw) ⟨4,q2,i,(its.length:Int),[FL],(s':Int),noT,noT⟩ _ _ _ _ (by simp) (nf_lt (nf_bl bw HO.out.1)) (nf_lt (nf_bl bw HO.out.2)) (by have:=HBD.out;show q2.length≤_;omega) HFC.out (by simp [In64]) (in64_small (by have:=HBD.out;show _≤i∧i≤_;omega)) (in64_small (by have:=HBD.out;show _≤(its.length:Int)∧(its.length:Int)≤_;omega)) (in64_small (by have:=HBD.out;show _≤(s':Int)∧(s':Int)≤_;omega)) (Nat.zero_le _) (Nat.zero_le _)) ?_
  rintro e wk ⟨F,rfl,hbs,hst⟩
  try have HR:=hid (Stp.keep hst (nf_bl bw HR.out))
  have HB:=hid hbs
  have HBO:=HB
  have HW:=hid hbs.below
  clear hst hbs
  iterate 4 (try clear HO)
  refine hK.out _ _ (kwt HW.out) (fun hHeld=>?_)
  clear hK K
  try simp only [Act.put,List.setIfInBounds_toArray,List.set_cons_zero,List.set_cons_succ]
  refine wpAnyH_ready (rs:=[7]) (by kernel_rfl) (by simp) ?_
  refine (AllReadyH.cons (o:=⟨some 32,_,_,_,_,_⟩) rfl (fun K hK=>?_) AllReadyH.nil)
  go_simp
  refine Calls.mono (HMP.out _ (bwt HW.out)) ?_
  rintro e wk ⟨v9,rfl,hr9,hb9⟩
  obtain ⟨Aq,cq,rfl⟩:=hr9.form
  first | have HR:=hid (new_nf (BS.bl HB.out bw).hi hr9) | have HR:=hid (new_nf (F:=fun _=>False) (fun _ h=>h.elim) hr9)
  try have HO:=hid (And.intro (nf_bl hb9 (nf_bl bw HO.out.1)) (nf_bl hb9 (nf_bl bw HO.out.2)))
  try have HB:=hid (BS.bl (BS.bl HB.out bw) hb9)
  try have HBO:=HB
  have HW:=hid ((bwt HW.out).trans (hb9.mono (bwt HW.out).size))
  clear hr9 hb9
  refine hK.out _ _ (kwt HW.out) (fun hHeld=>?_)
  clear hK K
  try simp only [Act.put,List.setIfInBounds_toArray,List.set_cons_zero,List.set_cons_succ]
  refine wpAnyH_ready (rs:=[8]) (by kernel_rfl) (by simp) ?_
  refine (AllReadyH.cons (o:=⟨some 33,_,_,_,_,_⟩) rfl (fun K hK=>?_) AllReadyH.nil)
  go_simp
  refine Calls.mono (cb_at (HB.out.bl bw) pos [] Aq none cq 0 (nf_lt (nf_bl bw HR.out)) (SliceR.nil_ 0 (Nat.zero_le _) none) HL.out) ?_
  rintro e wk ⟨rfl,hba⟩
  rw [List.append_nil] at hba
  have HB:=hid hba
  have HW:=hid hba.below
  clear hba
  refine hK.out _ _ (kwt HW.out) (fun hHeld=>?_)
  clear hK K
  try simp only [Act.put,List.setIfInBounds_toArray,List.set_cons_zero,List.set_cons_succ]
  rotate_left
  all_goals
   refine wpAnyH_ready (rs:=[9]) (by kernel_rfl) (by simp) ?_
   refine (AllReadyH.cons (o:=⟨some 34,_,_,_,_,_⟩) rfl (fun K hK=>?_) AllReadyH.nil)
   go_simp
   refine Calls.mono (HDN.out _ _ (bwt HW.out) (HB.out.bl bw)) ?_
   rintro e wk hrec
   have HREC:=hid hrec
   obtain ⟨Ao9,co9,Ap9,cp9,Am9,cm9,Aap9,cap9,Aam9,cam9,rfl,_,_,_,_,_,hbw⟩:=hrec
   have HW:=hid hbw
   have HGW:=hid (HG.out.below hbw)
   clear hbw
   refine hK.out _ _ (kwt HW.out) (fun hHeld=>?_)
   clear hK K
   try simp only [Act.put,List.setIfInBounds_toArray,List.set_cons_zero,List.set_cons_succ]
   refine wpAnyH_take (i:=10) (oi:=⟨some 35,_,_,_,_,_⟩) (v:=_) rfl (by kernel_rfl) (by kernel_rfl) (by kernel_rfl) (fun _ _ _ h=>h) (Or.inl ⟨by rfl,fun w hS=>by clear hS;go_simp;try with_reducible rfl⟩) hHeld ?_
   try simp only [Act.put,List.setIfInBounds_toArray,List.set_cons_zero,List.set_cons_succ]
   refine wpAnyH_take (i:=11) (oi:=⟨some 36,_,_,_,_,_⟩) (v:=_) rfl (by kernel_rfl) (by kernel_rfl) (by kernel_rfl) (fun _ _ _ h=>h) (Or.inl ⟨by rfl,fun w hS=>by clear hS;go_simp;try with_reducible rfl⟩) hHeld ?_
   try simp only [Act.put,List.setIfInBounds_toArray,List.set_cons_zero,List.set_cons_succ]
   refine wpAnyH_ready (rs:=[12]) (by kernel_rfl) (by simp) ?_
   refine (AllReadyH.cons (o:=⟨none,_,_,_,_,_⟩) rfl (fun K hK=>?_) AllReadyH.nil)
   rw [if_pos (by rfl)]
   refine wp_store_row 36 (.tmp 4) (.tmp 35) rfl (w.heap.size + 1 + 1) #[.slice Ao9 RES.1.ops.length co9,.slice Ap9 RES.1.bp.length cp9,.slice Am9 RES.1.bm.length cm9,.slice Aap9 RES.1.ap.length cap9,.slice Aam9 RES.1.am.length cam9] rfl rfl 36 _ HGW.out (by kernel_rfl) (by simp) (by simp [Value.oneCell']) ?_
   refine put_named HGW.out (fun X9 HX9=>?_)
   refine hK.out _ _ ((kwt HW.out).trans' HX9.out.1) (fun hHeld=>?_)
   clear hK K
   try simp only [Act.put,List.setIfInBounds_toArray,List.set_cons_zero,List.set_cons_succ]
   refine wpAnyH_take (i:=13) (oi:=⟨some 5,_,_,_,_,_⟩) (v:=_) rfl (by kernel_rfl) (by kernel_rfl) (by kernel_rfl) (fun _ _ _ h=>h) (Or.inl ⟨by rfl,fun w hS=>by clear hS;go_simp;try with_reducible rfl⟩) hHeld ?_
   try simp only [Act.put,List.setIfInBounds_toArray,List.set_cons_zero,List.set_cons_succ]
   refine wpAnyH_done (by kernel_rfl) ?_ _
   refine NoPanic.normal ?_
  all_goals
   go_wp2_with fail
   refine bodyPost_ret (v:=.tuple #[.agg #[.slice Ao9 RES.1.ops.length co9,.slice Ap9 RES.1.bp.length cp9,.slice Am9 RES.1.bm.length cm9,.slice Aap9 RES.1.ap.length cap9,.slice Aam9 RES.1.am.length cam9],.int .i64 RES.2]) (results_row_tmp Tryz.results25 _ _ _ (w.heap.size + 1 + 1) 36 _ (0,0) _ rfl HX9.out.2.1 rfl Tryz.underlying36 (by kernel_rfl) _ rfl) rfl ?_
   exact RecF.put (arr:=#[]) HREC.out HGW.out HX9.out.1 HX9.out.2.2 HWB.out (by omega)
end Go.Proofs.YtbjcioknfjofkaaGreat
