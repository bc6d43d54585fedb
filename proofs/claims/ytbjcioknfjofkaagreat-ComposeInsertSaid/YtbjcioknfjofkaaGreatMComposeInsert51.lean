/- Texts put together. -/
import Derived.Test.YtbjcioknfjofkaaGreatMComposeInsert26
import Derived.Test.YtbjcioknfjofkaaGreatMComposeInsert24
import Derived.Test.YtbjcioknfjofkaaGreatMComposeInsert41
import Derived.Test.YtbjcioknfjofkaaGreatMComposeInsert46
import Derived.Test.YtbjcioknfjofkaaGreatMComposeInsert49
import Derived.Test.YtbjcioknfjofkaaGreatMComposeInsert50
import Derived.Deep.CutBlock
import Derived.Deep.DeepCutAuto
set_option linter.unusedVariables false
set_option linter.unusedSimpArgs false
set_option maxRecDepth 100000
namespace Go.Proofs.YtbjcioknfjofkaaGreat
open Go.RowKit
set_option maxHeartbeats 4000000 in
theorem run0_any (t:Tree) (p m:List Int) (s:Int) (items:List Tree) (x:ByteArray) (f:Bool) (A Ap Am An:Option Addr) (cap cp cm cn:Nat) (w:World) (RES:RecD × Int)
  (hC:∀ W,Below w.heap.size w W→Calls Tryz.prog 20 #[.agg #[.int .i64 t.kind,.string t.text,.int .i64 t.cols,.slice A t.kids.length cap],.agg #[.slice Ap p.length cp,.slice Am m.length cm],.slice An items.length cn] W (RecB W RES)) :
  Calls Tryz.prog 27 #[.agg #[.int .i64 t.kind,.string t.text,.int .i64 t.cols,.slice A t.kids.length cap],.agg #[.slice Ap p.length cp,.slice Am m.length cm],.agg #[.int .i64 0,.slice An items.length cn,.int .i64 s,.string x,.bool f]] w (RecB w RES):=by
 obtain ⟨W0,hW0⟩:∃ W0,(((w.alloc (.cells #[.int .i64 t.kind,.string t.text,.int .i64 t.cols,.slice A t.kids.length cap] 24)).alloc (.cells #[.slice Ap p.length cp,.slice Am m.length cm] 33)).alloc (.cells #[.int .i64 0,.slice An items.length cn,.int .i64 s,.string x,.bool f] 44)).alloc (.cells #[.slice none 0 0,.slice none 0 0,.slice none 0 0,.slice none 0 0,.slice none 0 0] 36) = W0:=⟨_,rfl⟩
 have hb0:Below w.heap.size w W0:=by rw [← hW0];exact blAlloc (blAlloc (blAlloc (blA _ _) _) _) _
 have ho1:HasObj W0 w.heap.size (.cells #[.int .i64 t.kind,.string t.text,.int .i64 t.cols,.slice A t.kids.length cap] 24):=by rw [← hW0];exact (((HasObj.at0 _ _).al _).al _).al _
 have ho2:HasObj W0 (w.heap.size + 1) (.cells #[.slice Ap p.length cp,.slice Am m.length cm] 33):=by rw [← hW0];exact ((HasObj.at1 _ _ _).al _).al _
 have ho3:HasObj W0 (w.heap.size + 1 + 1) (.cells #[.int .i64 0,.slice An items.length cn,.int .i64 s,.string x,.bool f] 44):=by rw [← hW0];exact (HasObj.at2 _ _ _ _).al _
 have HO4:Hid (HasObj W0 (w.heap.size + 1 + 1 + 1) (.cells #[.slice none 0 0,.slice none 0 0,.slice none 0 0,.slice none 0 0,.slice none 0 0] 36)):=by show HasObj _ _ _;rw [← hW0];exact HasObj.new _ _ _ (by simp)
 have HC:=hid (hC W0 hb0)
 have HB0:=hid hb0
 have m0:=ho1.cell 0
 have m1:=ho1.cell 1
 have m2:=ho1.cell 2
 have m3:=ho1.cell 3
 have n0:=ho2.cell 0
 have n1:=ho2.cell 1
 have c0:=ho3.cell 0
 have c1:=ho3.cell 1
 have c2:=ho3.cell 2
 have c3:=ho3.cell 3
 have c4:=ho3.cell 4
 simp only [List.getElem?_toArray,List.getElem?_cons_zero,List.getElem?_cons_succ] at m0 m1 m2 m3 n0 n1 c0 c1 c2 c3 c4
 clear hC hb0 ho1 ho2 ho3
 go_enter Tryz.func27,Tryz.ntmps27
 go_wp2_with fail
 refine HC.out.mono ?_
 intro e wk hrec
 have HREC:=hid hrec
 obtain ⟨Ao9,co9,Ap9,cp9,Am9,cm9,Aap9,cap9,Aam9,cam9,rfl,_,_,_,_,_,hbw⟩:=hrec
 have HGW:=hid (HO4.out.below hbw)
 have HBW:=hid (blCall HB0.out hbw)
 clear hbw m0 m1 m2 m3 n0 n1 c0 c1 c2 c3 c4 hW0
 go_wp2_with (first
  | (refine wpList_store_row rfl 36 (.tmp 6) (.tmp 17) rfl (w.heap.size + 1 + 1 + 1) #[.slice Ao9 RES.1.ops.length co9,.slice Ap9 RES.1.bp.length cp9,.slice Am9 RES.1.bm.length cm9,.slice Aap9 RES.1.ap.length cap9,.slice Aam9 RES.1.am.length cam9] rfl rfl 36 _ HGW.out (by kernel_rfl) (by simp) (by simp [Value.oneCell']) ?_)
  | fail)
 refine bodyPost_ret (v:=.tuple #[.agg #[.slice Ao9 RES.1.ops.length co9,.slice Ap9 RES.1.bp.length cp9,.slice Am9 RES.1.bm.length cm9,.slice Aap9 RES.1.ap.length cap9,.slice Aam9 RES.1.am.length cam9],.int .i64 RES.2]) (results_row_tmp Tryz.results27 _ _ _ (w.heap.size + 1 + 1 + 1) 36 _ (0,0) _ rfl (HGW.out.row _) rfl Tryz.underlying36 (by kernel_rfl) _ rfl) rfl ?_
 exact RecB.put (arr:=#[]) HREC.out HGW.out (Kept.setRow _ _ _) (size_setRow _ _ _) HBW.out (by omega)
set_option maxHeartbeats 4000000 in
theorem rrun0_any (t:Tree) (p m:List Int) (s:Int) (items:List Tree) (x:ByteArray) (f:Bool) (A Ap Am An:Option Addr) (cap cp cm cn:Nat) (w:World) (RES:RecD × Int)
  (hC:∀ W,Below w.heap.size w W→Calls Tryz.prog 92 #[.agg #[.int .i64 t.kind,.string t.text,.int .i64 t.cols,.slice A t.kids.length cap],.agg #[.slice Ap p.length cp,.slice Am m.length cm],.slice An items.length cn] W (RecB W RES)) :
  Calls Tryz.prog 57 #[.agg #[.int .i64 t.kind,.string t.text,.int .i64 t.cols,.slice A t.kids.length cap],.agg #[.slice Ap p.length cp,.slice Am m.length cm],.agg #[.int .i64 0,.slice An items.length cn,.int .i64 s,.string x,.bool f]] w (RecB w RES):=by
 obtain ⟨W0,hW0⟩:∃ W0,(((w.alloc (.cells #[.int .i64 t.kind,.string t.text,.int .i64 t.cols,.slice A t.kids.length cap] 24)).alloc (.cells #[.slice Ap p.length cp,.slice Am m.length cm] 33)).alloc (.cells #[.int .i64 0,.slice An items.length cn,.int .i64 s,.string x,.bool f] 44)).alloc (.cells #[.slice none 0 0,.slice none 0 0,.slice none 0 0,.slice none 0 0,.slice none 0 0] 36) = W0:=⟨_,rfl⟩
 have hb0:Below w.heap.size w W0:=by rw [← hW0];exact blAlloc (blAlloc (blAlloc (blA _ _) _) _) _
 have ho1:HasObj W0 w.heap.size (.cells #[.int .i64 t.kind,.string t.text,.int .i64 t.cols,.slice A t.kids.length cap] 24):=by rw [← hW0];exact (((HasObj.at0 _ _).al _).al _).al _
 have ho2:HasObj W0 (w.heap.size + 1) (.cells #[.slice Ap p.length cp,.slice Am m.length cm] 33):=by rw [← hW0];exact ((HasObj.at1 _ _ _).al _).al _
 have ho3:HasObj W0 (w.heap.size + 1 + 1) (.cells #[.int .i64 0,.slice An items.length cn,.int .i64 s,.string x,.bool f] 44):=by rw [← hW0];exact (HasObj.at2 _ _ _ _).al _
 have HO4:Hid (HasObj W0 (w.heap.size + 1 + 1 + 1) (.cells #[.slice none 0 0,.slice none 0 0,.slice none 0 0,.slice none 0 0,.slice none 0 0] 36)):=by show HasObj _ _ _;rw [← hW0];exact HasObj.new _ _ _ (by simp)
 have HC:=hid (hC W0 hb0)
 have HB0:=hid hb0
 have m0:=ho1.cell 0
 have m1:=ho1.cell 1
 have m2:=ho1.cell 2
 have m3:=ho1.cell 3
 have n0:=ho2.cell 0
 have n1:=ho2.cell 1
 have c0:=ho3.cell 0
 have c1:=ho3.cell 1
 have c2:=ho3.cell 2
 have c3:=ho3.cell 3
 have c4:=ho3.cell 4
 simp only [List.getElem?_toArray,List.getElem?_cons_zero,List.getElem?_cons_succ] at m0 m1 m2 m3 n0 n1 c0 c1 c2 c3 c4
 clear hC hb0 ho1 ho2 ho3
 go_enter Tryz.func57,Tryz.ntmps57
 go_wp2_with fail
 refine HC.out.mono ?_
 intro e wk hrec
 have HREC:=hid hrec
 obtain ⟨Ao9,co9,Ap9,cp9,Am9,cm9,Aap9,cap9,Aam9,cam9,rfl,_,_,_,_,_,hbw⟩:=hrec
 have HGW:=hid (HO4.out.below hbw)
 have HBW:=hid (blCall HB0.out hbw)
 clear hbw m0 m1 m2 m3 n0 n1 c0 c1 c2 c3 c4 hW0
 go_wp2_with (first
  | (refine wpList_store_row rfl 36 (.tmp 6) (.tmp 17) rfl (w.heap.size + 1 + 1 + 1) #[.slice Ao9 RES.1.ops.length co9,.slice Ap9 RES.1.bp.length cp9,.slice Am9 RES.1.bm.length cm9,.slice Aap9 RES.1.ap.length cap9,.slice Aam9 RES.1.am.length cam9] rfl rfl 36 _ HGW.out (by kernel_rfl) (by simp) (by simp [Value.oneCell']) ?_)
  | fail)
 refine bodyPost_ret (v:=.tuple #[.agg #[.slice Ao9 RES.1.ops.length co9,.slice Ap9 RES.1.bp.length cp9,.slice Am9 RES.1.bm.length cm9,.slice Aap9 RES.1.ap.length cap9,.slice Aam9 RES.1.am.length cam9],.int .i64 RES.2]) (results_row_tmp Tryz.results57 _ _ _ (w.heap.size + 1 + 1 + 1) 36 _ (0,0) _ rfl (HGW.out.row _) rfl Tryz.underlying36 (by kernel_rfl) _ rfl) rfl ?_
 exact RecB.put (arr:=#[]) HREC.out HGW.out (Kept.setRow _ _ _) (size_setRow _ _ _) HBW.out (by omega)
set_option maxHeartbeats 4000000 in
theorem r14done_any (t:Tree) (p m pos:List Int) (ops:List OpD) (A Ap Am Ao Aq:Option Addr) (cap cp cm co cq:Nat) (w:World) (hv:SliceR treeE w (Lt w.heap.size) t.kids (.slice A t.kids.length cap)) (hok:NodeOk t) (hct:countS t≤900000) (hp:IntsR w (Lt w.heap.size) p (.slice Ap p.length cp)) (hm:IntsR w (Lt w.heap.size) m (.slice Am m.length cm)) (hq:IntsR w (Lt w.heap.size) pos (.slice Aq pos.length cq)) (ho:SliceR opE w (Lt w.heap.size) ops (.slice Ao ops.length co)) (hol:ops.length≤1000) (hcn:∀ k (hk:k < ops.length),countsS ops[k].nodes≤100000) :
  Calls Tryz.prog 138 #[.agg #[.int .i64 t.kind,.string t.text,.int .i64 t.cols,.slice A t.kids.length cap],.agg #[.slice Ap p.length cp,.slice Am m.length cm],.slice Ao ops.length co,.slice Aq pos.length cq] w (RecB w (doneR t p m ops pos [])):=by
 obtain ⟨W0,hW0⟩:∃ W0,((w.alloc (.cells #[.int .i64 t.kind,.string t.text,.int .i64 t.cols,.slice A t.kids.length cap] 24)).alloc (.cells #[.slice Ap p.length cp,.slice Am m.length cm] 33)).alloc (.cells #[.slice none 0 0,.slice none 0 0,.slice none 0 0,.slice none 0 0,.slice none 0 0] 36) = W0:=⟨_,rfl⟩
 have hb0:Below w.heap.size w W0:=by rw [← hW0];exact blAlloc (blAlloc (blA _ _) _) _
 have ho1:HasObj W0 w.heap.size (.cells #[.int .i64 t.kind,.string t.text,.int .i64 t.cols,.slice A t.kids.length cap] 24):=by rw [← hW0];exact ((HasObj.at0 _ _).al _).al _
 have HO2:Hid (HasObj W0 (w.heap.size + 1) (.cells #[.slice Ap p.length cp,.slice Am m.length cm] 33)):=by show HasObj _ _ _;rw [← hW0];exact (HasObj.at1 _ _ _).al _
 have HO3:Hid (HasObj W0 (w.heap.size + 1 + 1) (.cells #[.slice none 0 0,.slice none 0 0,.slice none 0 0,.slice none 0 0,.slice none 0 0] 36)):=by show HasObj _ _ _;rw [← hW0];exact HasObj.at2 _ _ _ _
 have C:=hid (applyAll_any t ops A Ao cap co W0 (hv.below hb0 hb0.size) hok hct (ho.below hb0 hb0.size) hol hcn)
 have HRD:=hid (And.intro ho (And.intro hp (And.intro hm hq)))
 have HR:Hid (doneR t p m ops pos [] = if (applyAllS t ops).2 = 0 then (⟨ops,p,m,pos,[]⟩,0) else (recZ,6)):=rfl
 have HB0:=hid hb0
 have m0:=ho1.cell 0
 have m1:=ho1.cell 1
 have m2:=ho1.cell 2
 have m3:=ho1.cell 3
 simp only [List.getElem?_toArray,List.getElem?_cons_zero,List.getElem?_cons_succ] at m0 m1 m2 m3
 generalize applyAllS t ops = AR at *
 obtain ⟨⟨rk,rt,rc,rs⟩,re⟩:=AR
 generalize doneR t p m ops pos [] = RES at *
 clear hv hok hct hp hm hq ho hol hcn hb0 ho1
 go_enter Tryz.func138,Tryz.ntmps138
 go_wp2_with fail
 refine C.out.mono ?_
 rintro e w1 ⟨v1,i1,rfl,hr1,hb1⟩
 obtain ⟨A1,c1,rfl⟩:=hr1.form
 simp only [Tree.kind,Tree.text,Tree.cols,Tree.kids] at *
 have HB1:=hid (HB0.out.trans (hb1.mono HB0.out.size))
 have HC1:=hid (HO2.out.below hb1)
 have HO1:=hid (HO3.out.below hb1)
 clear m0 m1 m2 m3 hb1 hW0 C HO2 HO3 hr1
 go_upto_region 2 with (first
  | (refine wpList_store_row rfl 24 (.tmp 10) (.tmp 17) rfl w1.heap.size _ rfl rfl 24 _ (HasObj.at0 _ _) (by kernel_rfl) (by simp) (by simp [Value.oneCell']) ?_)
  | fail)
 generalize hX:World.setRow _ _ _ = X
 have hbx:Below w1.heap.size w1 X:=by rw [← hX];exact below_setRowB (blA w1 _) (Nat.le_refl _) _
 have HG:Hid (HasObj X (w.heap.size + 1 + 1) (.cells #[.slice none 0 0,.slice none 0 0,.slice none 0 0,.slice none 0 0,.slice none 0 0] 36)):=hid (HO1.out.below hbx)
 have hcx:=HC1.out.below hbx
 have n0:X.cell? ⟨w.heap.size + 1,0,none⟩ = some (.slice Ap p.length cp):=hcx.cell 0
 have n1:X.cell? ⟨w.heap.size + 1,1,none⟩ = some (.slice Am m.length cm):=hcx.cell 1
 have HBX:=hid (HB1.out.trans (hbx.mono HB1.out.size))
 clear hX hbx hcx HC1 HO1 HB0 HB1
 by_cases h0:re = 0
 ·subst h0
  have HE:=hid (HR.out.trans (if_pos rfl))
  clear HR
  go_wp2_with (first
   | (refine wpList_store_row rfl 36 (.tmp 8) (.tmp 27) rfl (w.heap.size + 1 + 1) _ rfl rfl 36 _ HG.out (by kernel_rfl) (by simp) (by simp [Value.oneCell']) ?_)
   | fail)
  refine bodyPost_ret (v:=.tuple #[.agg #[.slice Ao ops.length co,.slice Ap p.length cp,.slice Am m.length cm,.slice Aq pos.length cq,.slice none 0 0],.int .i64 0]) (results_row_tmp Tryz.results138 _ _ _ (w.heap.size + 1 + 1) 36 _ (0,0) _ rfl (HG.out.row _) rfl Tryz.underlying36 (by kernel_rfl) _ rfl) rfl ?_
  rw [HE.out]
  have kp:∀ {α:Type} {E:Enc α} {xs:List α} {v:Value},SliceR E w (Lt w.heap.size) xs v→SliceR E (X.setRow (w.heap.size + 1 + 1) #[.slice Ao ops.length co,.slice Ap p.length cp,.slice Am m.length cm,.slice Aq pos.length cq,.slice none 0 0]) (Lt (X.setRow (w.heap.size + 1 + 1) #[.slice Ao ops.length co,.slice Ap p.length cp,.slice Am m.length cm,.slice Aq pos.length cq,.slice none 0 0]).heap.size) xs v:=fun h=>h.keep (fun q hq=>(World.cell?_of_block (setRow_other _ _ _ _ (by have:q.block < w.heap.size:=hq;omega))).trans (HBX.out.cell hq)) (fun k hk=>by unfold Lt;rw [size_setRow];exact Nat.lt_of_lt_of_le hk HBX.out.size)
  exact ⟨Ao,co,Ap,cp,Am,cm,Aq,cq,none,0,rfl,kp HRD.out.1,kp HRD.out.2.1,kp HRD.out.2.2.1,kp HRD.out.2.2.2,SliceR.nil_ 0 (Nat.zero_le _) none,below_setRowB HBX.out (by omega) _⟩
 ·have hse:(re != 0) = true:=by simp [h0]
  have HE:=hid (HR.out.trans (if_neg h0))
  clear h0 HR n0 n1
  go_wp2_with (first
   | (refine wpList_store_row rfl 36 (.tmp 8) (.tmp 22) rfl (w.heap.size + 1 + 1) _ rfl rfl 36 _ HG.out (by kernel_rfl) (by simp) (by simp [Value.oneCell']) ?_)
   | fail)
  refine bodyPost_ret (v:=.tuple #[.agg #[.slice none 0 0,.slice none 0 0,.slice none 0 0,.slice none 0 0,.slice none 0 0],.int .i64 6]) (results_row_tmp Tryz.results138 _ _ _ (w.heap.size + 1 + 1) 36 _ (0,0) _ rfl (HG.out.row _) rfl Tryz.underlying36 (by kernel_rfl) _ rfl) rfl ?_
  rw [HE.out]
  exact rec_zero 6 (below_setRowB HBX.out (by omega) _)
def AlcX (wk:World) (o:Obj) (X:World):Prop:=Below wk.heap.size wk X∧HasObj X wk.heap.size o
theorem alc_named {K:Act→World→Prop} {a:Act} {wk:World} {o:Obj} (hk:∀ X,Hid (AlcX wk o X)→K a X):K a (wk.alloc o):=hk _ ⟨blA wk o,by cases o <;> exact heap_alloc_new wk _⟩
theorem alc_drew {K:Act→World→Prop} {a:Act} {wk:World} {o:Obj} (hk:∀ X,Hid (AlcX wk o X)→K a X):K a (wk.alloc o).drew:=hk _ ⟨Below.drew (blA wk o),heap_alloc_new wk _⟩
theorem sl_bw {α:Type} {E:Enc α} {W X:World} {xs:List α} {v:Value} (h:SliceR E W (Lt W.heap.size) xs v) [BelowC W X]:SliceR E X (Lt X.heap.size) xs v:=h.below bw (bw (W:=W) (X:=X)).size
theorem row_obj {α:Type} {E:Enc α} {X:World} {b:Nat} {T:TypeId} {x:α} {cs:List Value} {S:Nat→Prop} (h:HasObj X b (.cells cs.toArray T)) (hx:E.R X S x cs) (hb:S b):SliceR E X S [x] (.slice (some ⟨b,0,none⟩) 1 1) :=
 ⟨_,_,cs,rfl,Nat.le_refl _,by simp [maxLen],fun _=>⟨b,0,rfl,hb,fun j u hu=>by rw [Nat.zero_add,h.cell j];simpa using hu⟩,ListR.single hx⟩
theorem of_facts {t:Tree} {p m rr:List Int} {ra rb:Int} (h:ofS t p m = ((rr,ra,rb),0)) (hpl:p.length≤90000) (hml:m.length≤90000):validS t = true∧rr.length≤90000∧0≤ra∧ra≤rb∧rb≤1000:=by
 obtain ⟨hv,hp,_,f1,f2,f3,f4⟩:=of_ok (t:=t) (p:=p) (m:=m) (by rw [h])
 rw [h] at f1 f2 f3 f4
 simp only at f1 f2 f3 f4
 have hcr:=find_count t rr
 have hlr:=kids_le_count (findS t rr).1
 have hvc:=(valid_count hv).1
 refine ⟨hv,?_,f2,f3,by omega⟩
 have h2:=h
 unfold ofS at h2
 split at h2 <;> unfold betV at h2 <;> split at h2
 ·simp at h2
 ·split at h2
  ·simp at h2
  ·have:=congrArg (fun x=>x.1.1.length) h2
   simp [btS] at this
   omega
 ·simp at h2
 ·split at h2
  ·simp at h2
  ·have:=congrArg (fun x=>x.1.1.length) h2
   simp [btS] at this
   omega
def FewO (ops:List OpD):Prop:=ops.length≤2∧∀ op ∈ ops,countsS op.nodes≤100000
theorem FewO.at_ {ops:List OpD} (h:FewO ops) (k:Nat) (hk:k < ops.length):countsS ops[k].nodes≤100000:=h.2 _ (List.getElem_mem hk)
theorem OwnO.below {α:Type} {E:Enc α} {T:TypeId} {w w':World} {b:Nat} {S:Nat→Prop} {ts:List α} {v:Value} (h:OwnO E T w b S ts v) (hb:Below w.heap.size w w') (hS:∀ k,S k→k < w.heap.size):OwnO E T w' b S ts v:=by
 obtain ⟨cs,h1,h2⟩:=h
 exact ⟨cs,owns_below _ h1 hb,h2.keep (fun p hp=>hb.cell (hS _ hp)) (fun k hk=>hk)⟩
theorem cutL_if {t:Tree} {p m rr:List Int} {ra rb:Int} (h:ofS t p m = ((rr,ra,rb),0)):(if ra < rb then [delOp rr ra (itemsR t rr ra rb).1] else []) = cutL rr ra (itemsR t rr ra rb).1:=by
 have h2:=(items_of (t:=t) (p:=p) (m:=m) (by rw [h])).2
 obtain ⟨_,_,_,_,_,f3,_⟩:=of_ok (t:=t) (p:=p) (m:=m) (by rw [h])
 rw [h] at h2 f3
 simp only at h2 f3
 unfold cutL
 by_cases hlt:ra < rb
 ·rw [if_pos hlt,if_neg (by omega)]
 ·rw [if_neg hlt,if_pos (by omega)]
theorem cutL_few (rr:List Int) (ra:Int) {l:List Tree} (h:countsS l≤1000):FewO (cutL rr ra l)∧(cutL rr ra l).length≤1:=by
 unfold cutL
 split
 ·exact ⟨⟨Nat.zero_le _,fun op h=>by simp at h⟩,Nat.zero_le _⟩
 ·refine ⟨⟨by simp,fun op h2=>?_⟩,Nat.le_refl _⟩
  rw [List.mem_singleton.1 h2]
  exact Nat.le_trans h (by decide)
theorem insInfoE:InfoE 67 (.agg #[.int .i64 0,.slice none 0 0,.int .i64 0,.int .i64 0,.slice none 0 0,.int .i64 0,.string ⟨#[]⟩,.string ⟨#[]⟩]) opE.size 112:=opInfo
set_option maxHeartbeats 16000000 in
theorem r14Insert_any (t:Tree) (p m:List Int) (items:List Tree) (A Ap Am An:Option Addr) (cap cp cm cn:Nat) (w:World) (hv:SliceR treeE w (Lt w.heap.size) t.kids (.slice A t.kids.length cap)) (hok:NodeOk t) (hct:countS t≤900000) (hp:IntsR w (Lt w.heap.size) p (.slice Ap p.length cp)) (hm:IntsR w (Lt w.heap.size) m (.slice Am m.length cm)) (hpl:p.length≤90000) (hml:m.length≤90000) (hi:SliceR treeE w (Lt w.heap.size) items (.slice An items.length cn)) (hic:countsS items≤100000) (hil:items.length≤100000) :
  Calls Tryz.prog 92 #[.agg #[.int .i64 t.kind,.string t.text,.int .i64 t.cols,.slice A t.kids.length cap],.agg #[.slice Ap p.length cp,.slice Am m.length cm],.slice An items.length cn] w (RecB w (cinsertS t p m items)):=by
 obtain ⟨W0,hW0⟩:∃ W0,((w.alloc (.cells #[.int .i64 t.kind,.string t.text,.int .i64 t.cols,.slice A t.kids.length cap] 24)).alloc (.cells #[.slice Ap p.length cp,.slice Am m.length cm] 33)).alloc (.cells #[.slice none 0 0,.slice none 0 0,.slice none 0 0,.slice none 0 0,.slice none 0 0] 36) = W0:=⟨_,rfl⟩
 have hb0:Below w.heap.size w W0:=by rw [← hW0];exact blAlloc (blAlloc (blA _ _) _) _
 have ho1:HasObj W0 w.heap.size (.cells #[.int .i64 t.kind,.string t.text,.int .i64 t.cols,.slice A t.kids.length cap] 24):=by rw [← hW0];exact ((HasObj.at0 _ _).al _).al _
 have ho2:HasObj W0 (w.heap.size + 1) (.cells #[.slice Ap p.length cp,.slice Am m.length cm] 33):=by rw [← hW0];exact (HasObj.at1 _ _ _).al _
 have HO1:=hid ho1
 have HO2:=hid ho2
 have HO3:Hid (HasObj W0 (w.heap.size + 1 + 1) (.cells #[.slice none 0 0,.slice none 0 0,.slice none 0 0,.slice none 0 0,.slice none 0 0] 36)):=by show HasObj _ _ _;rw [← hW0];exact HasObj.at2 _ _ _ _
 have HB0:=hid hb0
 have CELL:Hid (∀ W,HasObj W w.heap.size (.cells #[.int .i64 t.kind,.string t.text,.int .i64 t.cols,.slice A t.kids.length cap] 24)→HasObj W (w.heap.size + 1) (.cells #[.slice Ap p.length cp,.slice Am m.length cm] 33)→W.cell? ⟨w.heap.size,0,none⟩ = some (.int .i64 t.kind)∧W.cell? ⟨w.heap.size,1,none⟩ = some (.string t.text)∧W.cell? ⟨w.heap.size,2,none⟩ = some (.int .i64 t.cols)∧W.cell? ⟨w.heap.size,3,none⟩ = some (.slice A t.kids.length cap)∧W.cell? ⟨w.heap.size + 1,0,none⟩ = some (.slice Ap p.length cp)∧W.cell? ⟨w.heap.size + 1,1,none⟩ = some (.slice Am m.length cm)):=fun W h1 h2=>⟨h1.cell 0,h1.cell 1,h1.cell 2,h1.cell 3,h2.cell 0,h2.cell 1⟩
 have CC:Hid (∀ W,Below w.heap.size w W→Calls Tryz.prog 136 #[.agg #[.int .i64 t.kind,.string t.text,.int .i64 t.cols,.slice A t.kids.length cap],.agg #[.slice Ap p.length cp,.slice Am m.length cm]] W (BetV W (ofS t p m))):=fun W hW=>r14check_any t p m A Ap Am cap cp cm W (hv.below hW hW.size) hok.2.2 hct (hp.below hW hW.size) (hm.below hW hW.size)
 have CV:Hid (∀ W,Below w.heap.size w W→Calls Tryz.prog 35 #[.agg #[.int .i64 t.kind,.string t.text,.int .i64 t.cols,.slice A t.kids.length cap]] W fun e w'=>e = .returned (.bool (validS t))∧Below W.heap.size W w'):=fun W hW=>valid_any t A cap W (hv.below hW hW.size) hok.2.2 (by omega)
 have CI:Hid (∀ W,Below w.heap.size w W→Calls Tryz.prog 112 #[.slice An items.length cn] W fun e w'=>e = .returned (.bool (validS (rowT items)))∧Below W.heap.size W w'):=fun W hW=>validItems_any items An cn W (hi.below hW hW.size) (by omega)
 have HE:=hid (ins_cases t p m items)
 have HIN:=hid (And.intro hv (And.intro hok (And.intro hct (And.intro hp (And.intro hm (And.intro hpl hml))))))
 have HII:=hid (And.intro hi (And.intro hic hil))
 obtain ⟨RES,hRES⟩:∃ RES,cinsertS t p m items = RES:=⟨_,rfl⟩
 rw [hRES] at HE ⊢
 obtain ⟨m0,m1,m2,m3,n0,n1⟩:=CELL.out W0 ho1 ho2
 clear hv hok hct hp hm hpl hml hb0 ho1 ho2 hRES hi hic hil
 obtain ⟨bv,hbv⟩:∃ bv,validS t = bv:=⟨_,rfl⟩
 obtain ⟨bi,hbi⟩:∃ bi,validS (rowT items) = bi:=⟨_,rfl⟩
 rw [hbv] at CV HE
 rw [hbi] at CI HE
 clear hbv hbi
 go_enter Tryz.func92,Tryz.ntmps92
 go_wp2_with fail
 refine (CV.out _ HB0.out).mono ?_
 rintro e wv ⟨rfl,hbv⟩
 have HB1:=hid (HB0.out.trans (hbv.mono HB0.out.size))
 have HO1:=hid (HO1.out.below hbv)
 have HO2:=hid (HO2.out.below hbv)
 have HG:=hid (HO3.out.below hbv)
 clear hbv m0 m1 m2 m3 n0 n1 hW0 HO3 CV
 cases bv
 case false =>
  have HR:=hid (HE.out.1 rfl)
  clear HE CI
  go_wp2_with (first
   | (refine wpList_store_row rfl 36 (.tmp 6) (.tmp 19) rfl (w.heap.size + 1 + 1) _ rfl rfl 36 _ HG.out (by kernel_rfl) (by simp) (by simp [Value.oneCell']) ?_)
   | fail)
  refine bodyPost_ret (v:=.tuple #[.agg #[.slice none 0 0,.slice none 0 0,.slice none 0 0,.slice none 0 0,.slice none 0 0],.int .i64 1]) (results_row_tmp Tryz.results92 _ _ _ (w.heap.size + 1 + 1) 36 _ (0,0) _ rfl (HG.out.row _) rfl Tryz.underlying36 (by kernel_rfl) _ rfl) rfl ?_
  rw [HR.out]
  exact rec_zero 1 (below_setRowB HB1.out (by omega) _)
 case true =>
 go_wp2_with fail
 refine (CI.out _ HB1.out).mono ?_
 rintro e wi ⟨rfl,hbi⟩
 have HB1:=hid (HB1.out.trans (hbi.mono HB1.out.size))
 have HO1:=hid (HO1.out.below hbi)
 have HO2:=hid (HO2.out.below hbi)
 have HG:=hid (HG.out.below hbi)
 clear hbi CI
 cases bi
 case false =>
  have HR:=hid (HE.out.1 rfl)
  clear HE
  go_wp2_with (first
   | (refine wpList_store_row rfl 36 (.tmp 6) (.tmp 19) rfl (w.heap.size + 1 + 1) _ rfl rfl 36 _ HG.out (by kernel_rfl) (by simp) (by simp [Value.oneCell']) ?_)
   | fail)
  refine bodyPost_ret (v:=.tuple #[.agg #[.slice none 0 0,.slice none 0 0,.slice none 0 0,.slice none 0 0,.slice none 0 0],.int .i64 1]) (results_row_tmp Tryz.results92 _ _ _ (w.heap.size + 1 + 1) 36 _ (0,0) _ rfl (HG.out.row _) rfl Tryz.underlying36 (by kernel_rfl) _ rfl) rfl ?_
  rw [HR.out]
  exact rec_zero 1 (below_setRowB HB1.out (by omega) _)
 case true =>
 obtain ⟨m0,m1,m2,m3,n0,n1⟩:=CELL.out wi HO1.out HO2.out
 go_wp2_with fail
 obtain ⟨⟨⟨rr,ra,rb⟩,se⟩,hof⟩:∃ OF,ofS t p m = OF:=⟨_,rfl⟩
 have HOF:=hid hof
 rw [hof] at CC HE
 refine (CC.out _ HB1.out).mono ?_
 rintro e w1 ⟨v1,rfl,hr1,hb1⟩
 simp only at hr1
 obtain ⟨Ar,cr,rfl⟩:=hr1.form
 have HB1:=hid (HB1.out.trans (hb1.mono HB1.out.size))
 have HO1:=hid (HO1.out.below hb1)
 have HO2:=hid (HO2.out.below hb1)
 have HG:=hid (HG.out.below hb1)
 clear hb1 m0 m1 m2 m3 n0 n1 CC hof HB0
 go_upto_region 4 with (first
  | (refine wpList_store_row rfl 46 (.tmp 8) (.tmp 24) rfl w1.heap.size _ rfl rfl 46 _ (HasObj.at0 _ _) (by kernel_rfl) (by simp) (by simp [Value.oneCell']) ?_)
  | fail)
 generalize hX:World.setRow _ _ _ = X
 have hbx:Below w1.heap.size w1 X:=by rw [← hX];exact below_setRowB (blA w1 _) (Nat.le_refl _) _
 have HOS:Hid (HasObj X w1.heap.size (.cells #[.slice Ar rr.length cr,.int .i64 ra,.int .i64 rb] 46)):=by show HasObj _ _ _;rw [← hX];exact (HasObj.at0 w1 _).row _
 have HNE:Hid (w1.heap.size≠w.heap.size + 1 + 1):=fun e=>Nat.lt_irrefl _ (e ▸ HG.out.lt)
 have HO1:=hid (HO1.out.below hbx)
 have HO2:=hid (HO2.out.below hbx)
 have HG:=hid (HG.out.below hbx)
 have HWB:=hid (HB1.out.trans (hbx.mono HB1.out.size))
 have HN1:Hid (w.heap.size≠w.heap.size + 1 + 1):=by show _≠_;omega
 have HN2:Hid (w.heap.size + 1≠w.heap.size + 1 + 1):=by show _≠_;omega
 have HRR:=hid ((hr1.keep (fun _ _=>rfl) (fun k hk=>hk.2):IntsR w1 (Lt w1.heap.size) rr _).below hbx hbx.size)
 obtain ⟨gs,hgs⟩:∃ gs,w1.heap.size = gs:=⟨_,rfl⟩
 simp only [hgs] at HOS HNE ⊢
 clear hX hbx hr1 HB1 hgs
 by_cases hse:se = 0
 rotate_left
 ·have hse':(se != 0) = true:=by simp [hse]
  have HR:=hid (HE.out.2.1 rfl hse)
  clear HE hse
  go_wp2_with (first
   | (refine wpList_store_row rfl 36 (.tmp 6) (.tmp 28) rfl (w.heap.size + 1 + 1) _ rfl rfl 36 _ HG.out (by kernel_rfl) (by simp) (by simp [Value.oneCell']) ?_)
   | fail)
  refine bodyPost_ret (v:=.tuple #[.agg #[.slice none 0 0,.slice none 0 0,.slice none 0 0,.slice none 0 0,.slice none 0 0],.int .i64 se]) (results_row_tmp Tryz.results92 _ _ _ (w.heap.size + 1 + 1) 36 _ (0,0) _ rfl (HG.out.row _) rfl Tryz.underlying36 (by kernel_rfl) _ rfl) rfl ?_
  rw [HR.out]
  exact rec_zero se (below_setRowB HWB.out (by omega) _)
 subst hse
 have HR:=hid (HE.out.2.2 rr ra rb rfl rfl)
 have HF:=hid (of_facts HOF.out HIN.out.2.2.2.2.2.1 HIN.out.2.2.2.2.2.2)
 have hcut:=cutL_if HOF.out
 obtain ⟨l9,hl9⟩:∃ l9,(itemsR t rr ra rb).1 = l9:=⟨_,rfl⟩
 have HXC:Hid (countsS l9≤1000):=by show _≤_;rw [← hl9];exact items_count HF.out.1 rr ra rb
 rw [hl9] at hcut
 have HR:Hid (RES = doneR t p m (cutL rr ra l9 ++ if items.length = 0 then [] else [insOp rr ra items]) (rr ++ [ra + items.length]) []):=by
  have h:=HR.out
  rw [hl9,hcut] at h
  exact h
 have HCU:Hid (∀ W,Below X.heap.size X W→Calls Tryz.prog 137 #[.agg #[.int .i64 t.kind,.string t.text,.int .i64 t.cols,.slice A t.kids.length cap],.agg #[.slice Ar rr.length cr,.int .i64 ra,.int .i64 rb]] W (OpsO W (cutL rr ra l9))):=fun W hW=>by
  have hw:=HWB.out.trans (hW.mono HWB.out.size)
  have h9:=r14cutO_any t rr ra rb A Ar cap cr W (HIN.out.1.below hw hw.size) HIN.out.2.1 HIN.out.2.2.1 (HRR.out.below hW hW.size) (in64_small (by have:=HF.out;omega)) (in64_small (by have:=HF.out;omega))
  rwa [hl9] at h9
 have HCF:=hid (cutL_few rr ra HXC.out)
 have HIX:=hid (HII.out.1.below HWB.out HWB.out.size)
 have HI64:Hid (In64 ra):=in64_small (by have:=HF.out;omega)
 have v1:IntKind.i64.wrap (ra + (items.length:Int)) = ra + (items.length:Int):=by have:=HF.out;have:=HII.out;exact IntWalk.i64_in _ (by omega)
 have HPL:Hid (rr.length + [ra + (items.length:Int)].length≤100000):=by have:=HF.out;show rr.length + 1≤_;omega
 have H64:Hid (∀ i ∈ [ra + (items.length:Int)],In64 i):=fun i hi=>by rw [List.mem_singleton.1 hi];have:=HF.out;have:=HII.out;exact in64_small (by omega)
 obtain ⟨ops1,hops1⟩:∃ ops1,cutL rr ra l9 = ops1:=⟨_,rfl⟩
 rw [hops1] at HCU HR HCF
 obtain ⟨pos,hpos⟩:∃ pos,rr ++ [ra + (items.length:Int)] = pos:=⟨_,rfl⟩
 rw [hpos] at HR
 have HPOS:=hid hpos
 clear HE hcut hl9 hops1 hpos HXC
 have CDN:Hid (∀ ops W Ao co Aq cq,FewO ops→RES = doneR t p m ops pos []→Below X.heap.size X W→SliceR opE W (Lt W.heap.size) ops (.slice Ao ops.length co)→IntsR W (Lt W.heap.size) pos (.slice Aq pos.length cq)→Calls Tryz.prog 138 #[.agg #[.int .i64 t.kind,.string t.text,.int .i64 t.cols,.slice A t.kids.length cap],.agg #[.slice Ap p.length cp,.slice Am m.length cm],.slice Ao ops.length co,.slice Aq pos.length cq] W (RecB W RES)):=fun ops W Ao co Aq cq hf hr hW h1 h2=>by
  have hw:=HWB.out.trans (hW.mono HWB.out.size)
  rw [hr]
  exact r14done_any t p m pos ops A Ap Am Ao Aq cap cp cm co cq W (HIN.out.1.below hw hw.size) HIN.out.2.1 HIN.out.2.2.1 (HIN.out.2.2.2.1.below hw hw.size) (HIN.out.2.2.2.2.1.below hw hw.size) h2 h1 (by have:=hf.1;omega) hf.at_
 obtain ⟨m0,m1,m2,m3,_,_⟩:=CELL.out X HO1.out HO2.out
 have s0:X.cell? ⟨gs,0,none⟩ = some (.slice Ar rr.length cr):=HOS.out.cell 0
 have s1:X.cell? ⟨gs,1,none⟩ = some (.int .i64 ra):=HOS.out.cell 1
 have s2:X.cell? ⟨gs,2,none⟩ = some (.int .i64 rb):=HOS.out.cell 2
 go_wp2_with fail
 refine (HCU.out _ (Below.refl _ _)).mono ?_
 rintro e w7 ⟨v7,b7,rfl,ho7,hb71,hb72,hb7⟩
 obtain ⟨A7,c7,rfl⟩:=(ho7.rows (Lt w7.heap.size) (fun k hk=>Nat.lt_of_lt_of_le hk hb72) (fun k _ hk=>hk)).form
 have HB7:=hid hb7
 have HO7:=hid ho7
 have HB71:=hid (And.intro hb71 hb72)
 clear ho7 hb71 hb72 hb7 m0 m1 m2 m3 s0 s1 s2
 rcases Nat.eq_zero_or_pos items.length with hz | hz
 case' inl =>
  have i5:decide ((0:Int) < (items.length:Int)) = false:=by rw [decide_eq_false_iff_not];omega
  have i5':decide (0 < items.length) = false:=by rw [decide_eq_false_iff_not];omega
  have HR2:Hid (RES = doneR t p m ops1 pos []∧FewO ops1):=⟨HR.out.trans (by rw [if_pos hz,List.append_nil]),HCF.out.1⟩
  have HPO:Hid (SliceR opE w7 (Lt w7.heap.size) ops1 (.slice A7 ops1.length c7)):=HO7.out.rows (Lt w7.heap.size) (fun k hk=>Nat.lt_of_lt_of_le hk HB71.out.2) (fun k _ hk=>hk)
  clear hz HR
  go_upto_region 9 with fail
  generalize w7 = Y at *
 case' inr =>
  have i5:decide ((0:Int) < (items.length:Int)) = true:=by rw [decide_eq_true_eq];omega
  have i5':decide (0 < items.length) = true:=by rw [decide_eq_true_eq];omega
  have HR2:Hid (RES = doneR t p m (ops1 ++ [insOp rr ra items]) pos []∧FewO (ops1 ++ [insOp rr ra items])):=⟨HR.out.trans (by rw [if_neg (by omega)]),by have:=HCF.out.2;simp;omega,fun op hop=>(List.mem_append.1 hop).elim (HCF.out.1.2 op) (fun h=>by rw [List.mem_singleton.1 h];exact HII.out.2.1)⟩
  clear hz HR
  have hos7:=HOS.out.below HB7.out
  have s0:w7.cell? ⟨gs,0,none⟩ = some (.slice Ar rr.length cr):=hos7.cell 0
  have s1:w7.cell? ⟨gs,1,none⟩ = some (.int .i64 ra):=hos7.cell 1
  clear hos7
  have hxo:opE.R (w7.alloc (.cells #[.int .i64 1,.slice Ar rr.length cr,.int .i64 ra,.int .i64 0,.slice An items.length cn,.int .i64 0,.string ⟨#[]⟩,.string ⟨#[]⟩] 67)) (Lt b7) (insOp rr ra items) [.int .i64 1,.slice Ar rr.length cr,.int .i64 ra,.int .i64 0,.slice An items.length cn,.int .i64 0,.string ⟨#[]⟩,.string ⟨#[]⟩]:=by
   have hb9:Below X.heap.size X (w7.alloc (.cells #[.int .i64 1,.slice Ar rr.length cr,.int .i64 ra,.int .i64 0,.slice An items.length cn,.int .i64 0,.string ⟨#[]⟩,.string ⟨#[]⟩] 67)):=HB7.out.trans ((blA w7 _).mono HB7.out.size)
   have hx9:=HB71.out.1
   exact ⟨_,_,rfl,by unfold In64 insOp;simp,HI64.out,by unfold In64 insOp;simp,by unfold In64 insOp;simp,Nat.zero_le _,Nat.zero_le _,HRR.out.keep (fun q hq=>hb9.cell hq) (fun k hk=>Nat.lt_of_lt_of_le hk hx9),HIX.out.keep (fun q hq=>hb9.cell hq) (fun k hk=>Nat.lt_of_lt_of_le hk hx9)⟩
  have HXO:=hid hxo
  have hrd:Reads (w7.alloc (.cells #[.int .i64 1,.slice Ar rr.length cr,.int .i64 ra,.int .i64 0,.slice An items.length cn,.int .i64 0,.string ⟨#[]⟩,.string ⟨#[]⟩] 67)) (fun k=>k = w7.heap.size) (some ⟨w7.heap.size,0,none⟩) [.int .i64 1,.slice Ar rr.length cr,.int .i64 ra,.int .i64 0,.slice An items.length cn,.int .i64 0,.string ⟨#[]⟩,.string ⟨#[]⟩]:=fun _=>⟨w7.heap.size,0,rfl,rfl,fun j u hu=>by rw [Nat.zero_add,World.cell?_alloc_new];simpa using hu⟩
  have HRDD:=hid hrd
  have HOA:=hid (HO7.out.below (blA w7 (.cells #[.int .i64 1,.slice Ar rr.length cr,.int .i64 ra,.int .i64 0,.slice An items.length cn,.int .i64 0,.string ⟨#[]⟩,.string ⟨#[]⟩] 67)) (fun k hk=>Nat.lt_of_lt_of_le hk HB71.out.2))
  clear hxo hrd
  go_upto_region 9 with (first
   | (at_builtin;refine app_O (TS:=34) Tryz.underlying34 insInfoE rfl (by decide) (fun k hk=>hk) (by rfl) (.tmp 36) (.tmp 43) (by rfl) (by rfl) HOA.out _ 1 1 (by rfl) _ _ HRDD.out (ListR.single HXO.out) (by rfl) (by have:=HCF.out.2;simp;omega) (Nat.le_trans HB71.out.2 (blA w7 _).size) ?_;intro v8 w8 h81 h82;have HO8:=hid h81;have HB8:=hid h82;clear h81 h82)
   | fail)
  have hb7w:b7≤w8.heap.size:=Nat.le_trans (Nat.le_trans HB71.out.2 (blA w7 (.cells #[.int .i64 1,.slice Ar rr.length cr,.int .i64 ra,.int .i64 0,.slice An items.length cn,.int .i64 0,.string ⟨#[]⟩,.string ⟨#[]⟩] 67)).size) HB8.out.size
  have hr8:=HO8.out.rows (Lt w8.heap.size) (fun k hk=>Nat.lt_of_lt_of_le hk hb7w) (fun k _ hk=>hk)
  obtain ⟨A8,c8,rfl⟩:=hr8.form
  have HPO:=hid hr8
  have HB7:Hid (Below X.heap.size X w8):=(HB7.out.trans ((blA w7 _).mono HB7.out.size)).trans (HB8.out.mono HB71.out.1)
  generalize ops1 ++ [insOp rr ra items] = ops2 at *
  clear hr8 hb7w s0 s1 HXO HRDD HOA HO8 HB8
  generalize w8 = Y at *
 all_goals
  have HDN:=hid (fun W Ao co Aq cq (hW:Below Y.heap.size Y W) h1 h2=>CDN.out _ W Ao co Aq cq HR2.out.2 HR2.out.1 (HB7.out.trans (hW.mono HB7.out.size)) h1 h2)
  have HO1:=hid (HO1.out.below HB7.out)
  have HO2:=hid (HO2.out.below HB7.out)
  have HOS:=hid (HOS.out.below HB7.out)
  have HG:=hid (HG.out.below HB7.out)
  have HRY:=hid (HRR.out.below HB7.out HB7.out.size)
  have HWB:=hid (HWB.out.trans (HB7.out.mono HWB.out.size))
  have HAT:Hid (∀ W g,HasObj W g (.cells #[.int .i64 (ra + (items.length:Int))] 3)→Below Y.heap.size Y W→Calls Tryz.prog 139 #[.slice Ar rr.length cr,.slice (some ⟨g,0,none⟩) 1 1] W (IntsPost W pos)):=fun W g ho hW=>by
   rw [← HPOS.out]
   exact (r14at_any rr [ra + (items.length:Int)] Ar (some ⟨g,0,none⟩) cr 1 W (HRY.out.below hW hW.size) (row_obj (E:=intE) (cs:=[.int .i64 (ra + (items.length:Int))]) ho ⟨rfl,H64.out _ (List.mem_singleton.2 rfl)⟩ ho.lt) HPL.out).mono fun e w' h=>OwnPost.ints h
  have HW:Hid (Below Y.heap.size Y Y):=hid (Below.refl _ _)
  clear HB7 CDN HR2 HCF HRY HPOS HPL H64 HCU HIX HII HO7 HB71 i5 i5' HRR CELL
  refine wp_region_noPanic ?_
  refine wp_region_held_drew (S:=fun w'=>Kept (fun k=>k = w.heap.size + 1 + 1) Y w') (by kernel_rfl) (kwt HW.out) (fun hHeld=>?_)
  refine wpAnyH_take (i:=0) (oi:=⟨some 45,_,_,_,_,_⟩) (v:=_) rfl (by kernel_rfl) (by kernel_rfl) (by kernel_rfl) (fun _ _ _ h=>h) (yif_row 24 (.tmp 3) rfl (by rfl) _ rfl (fun w hS=>hS.obj HO1.out HN1.out) Tryz.underlying24 (by kernel_rfl)) hHeld ?_
  try simp only [Act.put,List.setIfInBounds_toArray,List.set_cons_zero,List.set_cons_succ]
  refine wpAnyH_take (i:=1) (oi:=⟨some 46,_,_,_,_,_⟩) (v:=_) rfl (by kernel_rfl) (by kernel_rfl) (by kernel_rfl) (fun _ _ _ h=>h) (yif_row 33 (.tmp 4) rfl (by rfl) _ rfl (fun w hS=>hS.obj HO2.out HN2.out) Tryz.underlying33 (by kernel_rfl)) hHeld ?_
  try simp only [Act.put,List.setIfInBounds_toArray,List.set_cons_zero,List.set_cons_succ]
  refine wpAnyH_take (i:=2) (oi:=⟨some 47,_,_,_,_,_⟩) (v:=_) rfl (by kernel_rfl) (by kernel_rfl) (by kernel_rfl) (fun _ _ _ h=>h) (Or.inl ⟨by rfl,fun W hS=>by clear hS;go_simp;try with_reducible rfl⟩) hHeld ?_
  try simp only [Act.put,List.setIfInBounds_toArray,List.set_cons_zero,List.set_cons_succ]
  refine wpAnyH_take (i:=3) (oi:=⟨some 48,_,_,_,_,_⟩) (v:=_) rfl (by kernel_rfl) (by kernel_rfl) (by kernel_rfl) (fun _ _ _ h=>h) (Or.inl ⟨by rfl,fun W hS=>by clear hS;go_simp;try with_reducible rfl⟩) hHeld ?_
  try simp only [Act.put,List.setIfInBounds_toArray,List.set_cons_zero,List.set_cons_succ]
  refine wpAnyH_take (i:=4) (oi:=⟨some 49,_,_,_,_,_⟩) (v:=_) rfl (by kernel_rfl) (by kernel_rfl) (by kernel_rfl) (fun _ _ _ h=>h) (Or.inl ⟨by rfl,fun W hS=>by have h:W.cell? ⟨gs,0,none⟩ = some (.slice Ar rr.length cr):=(hS.obj HOS.out HNE.out).cell 0;clear hS;go_simp;try with_reducible rfl⟩) hHeld ?_
  try simp only [Act.put,List.setIfInBounds_toArray,List.set_cons_zero,List.set_cons_succ]
  refine wpAnyH_take (i:=5) (oi:=⟨some 50,_,_,_,_,_⟩) (v:=_) rfl (by kernel_rfl) (by kernel_rfl) (by kernel_rfl) (fun _ _ _ h=>h) (Or.inl ⟨by rfl,fun W hS=>by clear hS;go_simp;try with_reducible rfl⟩) hHeld ?_
  try simp only [Act.put,List.setIfInBounds_toArray,List.set_cons_zero,List.set_cons_succ]
  refine wpAnyH_take (i:=6) (oi:=⟨some 51,_,_,_,_,_⟩) (v:=_) rfl (by kernel_rfl) (by kernel_rfl) (by kernel_rfl) (fun _ _ _ h=>h) (Or.inl ⟨by rfl,fun W hS=>by have h:W.cell? ⟨gs,1,none⟩ = some (.int .i64 ra):=(hS.obj HOS.out HNE.out).cell 1;clear hS;go_simp;try with_reducible rfl⟩) hHeld ?_
  try simp only [Act.put,List.setIfInBounds_toArray,List.set_cons_zero,List.set_cons_succ]
  refine wpAnyH_take (i:=7) (oi:=⟨some 52,_,_,_,_,_⟩) (v:=_) rfl (by kernel_rfl) (by kernel_rfl) (by kernel_rfl) (fun _ _ _ h=>h) (Or.inl ⟨by rfl,fun W hS=>by clear hS;go_simp;try with_reducible rfl⟩) hHeld ?_
  try simp only [Act.put,List.setIfInBounds_toArray,List.set_cons_zero,List.set_cons_succ]
  refine wpAnyH_take (i:=8) (oi:=⟨some 53,_,_,_,_,_⟩) (v:=_) rfl (by kernel_rfl) (by kernel_rfl) (by kernel_rfl) (fun _ _ _ h=>h) (Or.inl ⟨by rfl,fun W hS=>by clear hS;go_simp;try with_reducible rfl⟩) hHeld ?_
  try simp only [Act.put,List.setIfInBounds_toArray,List.set_cons_zero,List.set_cons_succ]
  refine wpAnyH_take (i:=9) (oi:=⟨some 54,_,_,_,_,_⟩) (v:=_) rfl (by kernel_rfl) (by kernel_rfl) (by kernel_rfl) (fun _ _ _ h=>h) (Or.inl ⟨by rfl,fun W hS=>by clear hS;go_simp;try with_reducible rfl⟩) hHeld ?_
  try simp only [Act.put,List.setIfInBounds_toArray,List.set_cons_zero,List.set_cons_succ]
  refine wpAnyH_ready (rs:=[10]) (by kernel_rfl) (by simp) ?_
  refine (AllReadyH.cons (o:=⟨some 55,_,_,_,_,_⟩) rfl (fun K hK=>?_) AllReadyH.nil)
  go_simp
  first | refine alc_drew (fun Xr HXR=>?_) | refine alc_named (fun Xr HXR=>?_)
  have HW:=hid ((bwt HW.out).trans (HXR.out.1.mono (bwt HW.out).size))
  have HROW:=hid HXR.out.2
  clear HXR
  refine hK.out _ _ (kwt HW.out) (fun hHeld=>?_)
  clear hK K
  try simp only [Act.put,List.setIfInBounds_toArray,List.set_cons_zero,List.set_cons_succ]
  refine wpAnyH_ready (rs:=[11]) (by kernel_rfl) (by simp) ?_
  refine (AllReadyH.cons (o:=⟨some 56,_,_,_,_,_⟩) rfl (fun K hK=>?_) AllReadyH.nil)
  go_simp
  refine Calls.mono (HAT.out _ _ HROW.out (bwt HW.out)) ?_
  rintro e wq ⟨vq,rfl,hrq,hbq⟩
  obtain ⟨Aq,cq,rfl⟩:=hrq.form
  have HPP:=hid hrq
  have HW:=hid ((bwt HW.out).trans (hbq.mono (bwt HW.out).size))
  clear hrq hbq
  refine hK.out _ _ (kwt HW.out) (fun hHeld=>?_)
  clear hK K
  try simp only [Act.put,List.setIfInBounds_toArray,List.set_cons_zero,List.set_cons_succ]
  refine wpAnyH_ready (rs:=[12]) (by kernel_rfl) (by simp) ?_
  refine (AllReadyH.cons (o:=⟨some 57,_,_,_,_,_⟩) rfl (fun K hK=>?_) AllReadyH.nil)
  go_simp
  refine Calls.mono (HDN.out _ _ _ _ _ (bwt HW.out) (HPO.out.below (bwt HW.out) (bwt HW.out).size) (sl_bw HPP.out)) ?_
  rintro e wk hrec
  have HREC:=hid hrec
  obtain ⟨Ao9,co9,Ap9,cp9,Am9,cm9,Aap9,cap9,Aam9,cam9,rfl,_,_,_,_,_,hbw⟩:=hrec
  have HW:=hid ((bwt HW.out).trans (hbw.mono (bwt HW.out).size))
  have HGW:=hid (HG.out.below HW.out)
  clear hbw
  refine hK.out _ _ (kwt HW.out) (fun hHeld=>?_)
  clear hK K
  try simp only [Act.put,List.setIfInBounds_toArray,List.set_cons_zero,List.set_cons_succ]
  refine wpAnyH_take (i:=13) (oi:=⟨some 58,_,_,_,_,_⟩) (v:=_) rfl (by kernel_rfl) (by kernel_rfl) (by kernel_rfl) (fun _ _ _ h=>h) (Or.inl ⟨by rfl,fun W hS=>by clear hS;go_simp;try with_reducible rfl⟩) hHeld ?_
  try simp only [Act.put,List.setIfInBounds_toArray,List.set_cons_zero,List.set_cons_succ]
  refine wpAnyH_take (i:=14) (oi:=⟨some 59,_,_,_,_,_⟩) (v:=_) rfl (by kernel_rfl) (by kernel_rfl) (by kernel_rfl) (fun _ _ _ h=>h) (Or.inl ⟨by rfl,fun W hS=>by clear hS;go_simp;try with_reducible rfl⟩) hHeld ?_
  try simp only [Act.put,List.setIfInBounds_toArray,List.set_cons_zero,List.set_cons_succ]
  refine wpAnyH_ready (rs:=[15]) (by kernel_rfl) (by simp) ?_
  refine (AllReadyH.cons (o:=⟨none,_,_,_,_,_⟩) rfl (fun K hK=>?_) AllReadyH.nil)
  rw [if_pos (by rfl)]
  refine wp_store_row 36 (.tmp 6) (.tmp 58) rfl (w.heap.size + 1 + 1) #[.slice Ao9 RES.1.ops.length co9,.slice Ap9 RES.1.bp.length cp9,.slice Am9 RES.1.bm.length cm9,.slice Aap9 RES.1.ap.length cap9,.slice Aam9 RES.1.am.length cam9] rfl rfl 36 _ HGW.out (by kernel_rfl) (by simp) (by simp [Value.oneCell']) ?_
  refine put_named HGW.out (fun X9 HX9=>?_)
  refine hK.out _ _ ((kwt HW.out).trans' HX9.out.1) (fun hHeld=>?_)
  clear hK K
  try simp only [Act.put,List.setIfInBounds_toArray,List.set_cons_zero,List.set_cons_succ]
  refine wpAnyH_take (i:=16) (oi:=⟨some 7,_,_,_,_,_⟩) (v:=_) rfl (by kernel_rfl) (by kernel_rfl) (by kernel_rfl) (fun _ _ _ h=>h) (Or.inl ⟨by rfl,fun W hS=>by clear hS;go_simp;try with_reducible rfl⟩) hHeld ?_
  try simp only [Act.put,List.setIfInBounds_toArray,List.set_cons_zero,List.set_cons_succ]
  refine wpAnyH_done (by kernel_rfl) ?_ _
  refine NoPanic.normal ?_
  all_goals
   go_wp2_with fail
   refine bodyPost_ret (v:=.tuple #[.agg #[.slice Ao9 RES.1.ops.length co9,.slice Ap9 RES.1.bp.length cp9,.slice Am9 RES.1.bm.length cm9,.slice Aap9 RES.1.ap.length cap9,.slice Aam9 RES.1.am.length cam9],.int .i64 RES.2]) (results_row_tmp Tryz.results92 _ _ _ (w.heap.size + 1 + 1) 36 _ (0,0) _ rfl HX9.out.2.1 rfl Tryz.underlying36 (by kernel_rfl) _ rfl) rfl ?_
   exact RecB.put (arr:=#[]) HREC.out HGW.out HX9.out.1 HX9.out.2.2 (HWB.out.trans (HW.out.mono HWB.out.size)) (by omega)
theorem few14_bd {t:Tree} {p m:List Int} {items:List Tree} {x:ByteArray} (h:few14S t p m items x = true):countS t≤300∧p.length≤60∧m.length≤60∧countsS items≤100∧x.size≤300:=by
 unfold few14S at h
 simp only [Bool.and_eq_true,decide_eq_true_eq] at h
 have h1:=few_count h.1
 have h2:=few_count h.2.2.2.1
 have h3:countS (rowT items) = 1 + countsS items:=rfl
 exact ⟨by omega,by omega,by omega,by omega,by omega⟩
end Go.Proofs.YtbjcioknfjofkaaGreat
