/- Texts put together. -/
import Derived.Test.YtbjcioknfjofkaaGreatQ2e9215994b
import Derived.Test.YtbjcioknfjofkaaGreatQ5b00a13be8
import Derived.Test.YtbjcioknfjofkaaGreatQ00a9222709
import Derived.Test.YtbjcioknfjofkaaGreatQ10e7920990
import Derived.Test.YtbjcioknfjofkaaGreatQ2131ee688f
import Derived.Deep.CutBlock
import Derived.Deep.DeepCutAuto
set_option linter.unusedVariables false
set_option linter.unusedSimpArgs false
set_option maxRecDepth 100000
namespace Go.Proofs.YtbjcioknfjofkaaGreat
open Go.RowKit
set_option maxHeartbeats 4000000 in
theorem rItem_any (t:Tree) (p:List Int) (i:Int) (A Ap:Option Addr) (cap cp:Nat) (w:World) (S:Nat→Prop) (hS:∀ k,S k→k < w.heap.size) (hv:SliceR treeE w S t.kids (.slice A t.kids.length cap)) (htx:t.text.size≤maxLen) (hct:countS t≤900000) (hp:IntsR w (Lt w.heap.size) p (.slice Ap p.length cp)) :
  Calls Tryz.prog 146 #[.agg #[.int .i64 t.kind,.string t.text,.int .i64 t.cols,.slice A t.kids.length cap],.slice Ap p.length cp,.int .i64 i] w (RowP S w (itemRes t p i).1.kind (itemRes t p i).1.text (itemRes t p i).1.cols (itemRes t p i).1.kids (itemRes t p i).2):=by
 obtain ⟨W0,hW0⟩:∃ W0,(w.alloc (.cells #[.int .i64 t.kind,.string t.text,.int .i64 t.cols,.slice A t.kids.length cap] 24)).alloc (.cells #[.int .i64 0,.string ⟨#[]⟩,.int .i64 0,.slice none 0 0] 24) = W0:=⟨_,rfl⟩
 have hb0:Below w.heap.size w W0:=by rw [← hW0];exact blAlloc (blA _ _) _
 have ho1:HasObj W0 w.heap.size (.cells #[.int .i64 t.kind,.string t.text,.int .i64 t.cols,.slice A t.kids.length cap] 24):=by rw [← hW0];exact (HasObj.at0 _ _).al _
 have HO2:Hid (HasObj W0 (w.heap.size + 1) (.cells #[.int .i64 0,.string ⟨#[]⟩,.int .i64 0,.slice none 0 0] 24)):=by show HasObj _ _ _;rw [← hW0];exact HasObj.at1 _ _ _
 have C:=hid (rRowS_any t p A Ap cap cp W0 S (fun k hk=>Nat.lt_of_lt_of_le (hS k hk) hb0.size) (hv.keep (fun q hq=>hb0.cell (hS _ hq)) (fun _ h=>h)) htx hct (hp.below hb0 hb0.size))
 have HR:Hid (itemRes t p i = if (rowRes t p).2≠0 then (zeroT,(rowRes t p).2) else if i < 0∨((rowRes t p).1.kids.length:Int)≤i then (zeroT,2) else (itemD (rowRes t p).1.kids i.toNat,0)):=rfl
 have HB0:=hid hb0
 have HSS:=hid hS
 have m0:=ho1.cell 0
 have m1:=ho1.cell 1
 have m2:=ho1.cell 2
 have m3:=ho1.cell 3
 simp only [List.getElem?_toArray,List.getElem?_cons_zero,List.getElem?_cons_succ] at m0 m1 m2 m3
 obtain ⟨⟨rx,re⟩,hrr⟩:∃ r,rowRes t p = r:=⟨_,rfl⟩
 rw [hrr] at C HR
 obtain ⟨rk,rt,rc,rs⟩:=rx
 simp only [Tree.kind,Tree.text,Tree.cols,Tree.kids] at C HR
 generalize itemRes t p i = RES at *
 clear hS hv htx hct hp hb0 ho1 hrr
 go_enter Tryz.func146,Tryz.ntmps146
 go_wp2_with fail
 refine C.out.mono ?_
 rintro e w1 ⟨v1,rfl,hr1,hb1⟩
 obtain ⟨A1,c1,rfl⟩:=hr1.form
 have HB1:=hid (HB0.out.trans (hb1.mono HB0.out.size))
 have HO1:=hid (HO2.out.below hb1)
 clear m0 m1 m2 m3 hb1 hW0 C HO2
 go_upto_region 2 with (first
  | (refine wpList_store_row rfl 24 (.tmp 8) (.tmp 14) rfl w1.heap.size _ rfl rfl 24 _ (HasObj.at0 _ _) (by kernel_rfl) (by simp) (by simp [Value.oneCell']) ?_)
  | fail)
 generalize hX:World.setRow _ _ _ = X
 have hbx:Below w1.heap.size w1 X:=by rw [← hX];exact below_setRowB (blA w1 _) (Nat.le_refl _) _
 have hso:HasObj X w1.heap.size (.cells #[.int .i64 rk,.string rt,.int .i64 rc,.slice A1 rs.length c1] 24):=by rw [← hX];exact (HasObj.at0 w1 _).row _
 have HG:Hid (HasObj X (w.heap.size + 1) (.cells #[.int .i64 0,.string ⟨#[]⟩,.int .i64 0,.slice none 0 0] 24)):=hid (HO1.out.below hbx)
 have HBX:=hid (HB1.out.trans (hbx.mono HB1.out.size))
 have hrx:SliceR treeE X S rs (.slice A1 rs.length c1):=hr1.keep (fun q hq=>hbx.cell (Nat.lt_of_lt_of_le (HSS.out _ hq) HB1.out.size)) (fun _ h=>h)
 have s3:X.cell? ⟨w1.heap.size,3,none⟩ = some (.slice A1 rs.length c1):=hso.cell 3
 clear hX hbx hso hr1 HO1 HB0 HB1
 by_cases h0:re = 0
 rotate_left
 ·have hse:(re != 0) = true:=by simp [h0]
  have HE:=hid (HR.out.trans (if_pos h0))
  clear h0 HR hrx s3
  go_wp2_with (first
   | (refine wpList_store_row rfl 24 (.tmp 6) (.tmp 18) rfl (w.heap.size + 1) _ rfl rfl 24 _ HG.out (by kernel_rfl) (by simp) (by simp [Value.oneCell']) ?_)
   | fail)
  refine bodyPost_ret (v:=.tuple #[.agg #[.int .i64 0,.string ⟨#[]⟩,.int .i64 0,.slice none 0 0],.int .i64 re]) (results_row_tmp Tryz.results146 _ _ _ (w.heap.size + 1) 24 _ (0,0) _ rfl (HG.out.row _) rfl Tryz.underlying24 (by kernel_rfl) _ rfl) rfl ?_
  rw [HE.out]
  exact ⟨_,rfl,SliceR.nil_ 0 (Nat.zero_le _) none,below_setRowB HBX.out (Nat.le_succ _) _⟩
 subst h0
 have hse:((0:Int) != 0) = false:=rfl
 have hr2:=HR.out.trans (if_neg (by simp))
 obtain ⟨_,_,rsx,hq,hlc,hmx,hrd,hls⟩:=hrx
 cases hq
 unfold maxLen at hmx
 by_cases h1:i < 0
 ·have i1:decide (i < 0) = true:=decide_eq_true h1
  have HE:=hid (hr2.trans (if_pos (.inl h1)))
  clear h1 HR hr2 hrd hls
  go_wp2_with (first
   | (refine wpList_store_row rfl 24 (.tmp 6) (.tmp 29) rfl (w.heap.size + 1) _ rfl rfl 24 _ HG.out (by kernel_rfl) (by simp) (by simp [Value.oneCell']) ?_)
   | fail)
  refine bodyPost_ret (v:=.tuple #[.agg #[.int .i64 0,.string ⟨#[]⟩,.int .i64 0,.slice none 0 0],.int .i64 2]) (results_row_tmp Tryz.results146 _ _ _ (w.heap.size + 1) 24 _ (0,0) _ rfl (HG.out.row _) rfl Tryz.underlying24 (by kernel_rfl) _ rfl) rfl ?_
  rw [HE.out]
  exact ⟨_,rfl,SliceR.nil_ 0 (Nat.zero_le _) none,below_setRowB HBX.out (Nat.le_succ _) _⟩
 have i1:decide (i < 0) = false:=decide_eq_false h1
 by_cases h2:(rs.length:Int)≤i
 ·have i2:decide ((rs.length:Int)≤i) = true:=decide_eq_true h2
  have HE:=hid (hr2.trans (if_pos (.inr h2)))
  clear h1 h2 HR hr2 hrd hls
  go_wp2_with (first
   | (refine wpList_store_row rfl 24 (.tmp 6) (.tmp 29) rfl (w.heap.size + 1) _ rfl rfl 24 _ HG.out (by kernel_rfl) (by simp) (by simp [Value.oneCell']) ?_)
   | fail)
  refine bodyPost_ret (v:=.tuple #[.agg #[.int .i64 0,.string ⟨#[]⟩,.int .i64 0,.slice none 0 0],.int .i64 2]) (results_row_tmp Tryz.results146 _ _ _ (w.heap.size + 1) 24 _ (0,0) _ rfl (HG.out.row _) rfl Tryz.underlying24 (by kernel_rfl) _ rfl) rfl ?_
  rw [HE.out]
  exact ⟨_,rfl,SliceR.nil_ 0 (Nat.zero_le _) none,below_setRowB HBX.out (Nat.le_succ _) _⟩
 have i2:decide ((rs.length:Int)≤i) = false:=decide_eq_false h2
 have HE:=hid (hr2.trans (if_neg (by omega)))
 obtain ⟨k,rfl⟩:∃ k:Nat,i = (k:Int):=⟨i.toNat,by omega⟩
 have hk:k < rs.length:=by omega
 have hie:itemD rs (k:Int).toNat = rs[k]:=by simp [itemD,hk]
 rw [hie] at HE
 obtain ⟨gx,ox,Bx,bx,rs2,rfl,hgx,x0,x1,x2,x3,_,_,_,hx5,hx6,hrx,hlx⟩:=trees_at hrd hls hk
 have HX:Hid (SliceR treeE X S rs[k].kids (.slice Bx rs[k].kids.length bx)):=⟨_,_,rs2,rfl,hx5,hx6,hrx,hlx⟩
 have j0:(0:Int)≤(k:Int):=by omega
 have j1:(k:Int) < (rs.length:Int):=by omega
 clear h1 h2 HR hr2 hrd hls hx5 hx6 hrx hlx hie
 generalize rs[k] = x at *
 go_wp2_with (first
  | (refine wpList_store_row rfl 24 (.tmp 6) (.tmp 34) rfl (w.heap.size + 1) _ rfl rfl 24 _ HG.out (by kernel_rfl) (by simp) (by simp [Value.oneCell']) ?_)
  | fail)
 refine bodyPost_ret (v:=.tuple #[.agg #[.int .i64 x.kind,.string x.text,.int .i64 x.cols,.slice Bx x.kids.length bx],.int .i64 0]) (results_row_tmp Tryz.results146 _ _ _ (w.heap.size + 1) 24 _ (0,0) _ rfl (HG.out.row _) rfl Tryz.underlying24 (by kernel_rfl) _ rfl) rfl ?_
 rw [HE.out]
 exact ⟨_,rfl,HX.out.keep (fun q hq=>World.cell?_of_block (setRow_other _ _ _ _ (by have:=HSS.out _ hq;omega))) (fun _ h=>h),below_setRowB HBX.out (Nat.le_succ _) _⟩
set_option maxHeartbeats 4000000 in
theorem r14done_any (t:Tree) (p m pos:List Int) (ops:List OpD) (A Ap Am Ao Aq:Option Addr) (cap cp cm co cq:Nat) (w:World) (hv:SliceR treeE w (Lt w.heap.size) t.kids (.slice A t.kids.length cap)) (hok:NodeOk t) (hct:countS t≤900000) (hp:IntsR w (Lt w.heap.size) p (.slice Ap p.length cp)) (hm:IntsR w (Lt w.heap.size) m (.slice Am m.length cm)) (hq:IntsR w (Lt w.heap.size) pos (.slice Aq pos.length cq)) (ho:SliceR opE w (Lt w.heap.size) ops (.slice Ao ops.length co)) (hol:ops.length≤1000) (hcn:∀ k (hk:k < ops.length),countsS ops[k].nodes≤100000) :
  Calls Tryz.prog 138 #[.agg #[.int .i64 t.kind,.string t.text,.int .i64 t.cols,.slice A t.kids.length cap],.agg #[.slice Ap p.length cp,.slice Am m.length cm],.slice Ao ops.length co,.slice Aq pos.length cq] w (RecB w (doneR t p m ops pos [])):=by
 obtain ⟨W0,hW0⟩:∃ W0,((w.alloc (.cells #[.int .i64 t.kind,.string t.text,.int .i64 t.cols,.slice A t.kids.length cap] 24)).alloc (.cells #[.slice Ap p.length cp,.slice Am m.length cm] 33)).alloc (.cells #[.slice none 0 0,.slice none 0 0,.slice none 0 0,.slice none 0 0,.slice none 0 0] 36) = W0:=⟨_,rfl⟩
 have hb0:Below w.heap.size w W0:=by rw [← hW0];exact blAlloc (blAlloc (blA _ _) _) _
 have ho1:HasObj W0 w.heap.size (.cells #[.int .i64 t.kind,.string t.text,.int .i64 t.cols,.slice A t.kids.length cap] 24):=by rw [← hW0];exact ((HasObj.at0 _ _).al _).al _
 have HO2:Hid (HasObj W0 (w.heap.size + 1) (.cells #[.slice Ap p.length cp,.slice Am m.length cm] 33)):=by show HasObj _ _ _;rw [← hW0];exact (HasObj.at1 _ _ _).al _
 have HO3:Hid (HasObj W0 (w.heap.size + 1 + 1) (.cells #[.slice none 0 0,.slice none 0 0,.slice none 0 0,.slice none 0 0,.slice none 0 0] 36)):=by show HasObj _ _ _;rw [← hW0];exact HasObj.at2 _ _ _ _
 have C:=hid (applyAll_any t ops A Ao cap co W0 (hv.below hb0 hb0.size) hok hct (ho.below hb0 hb0.size) hol hcn)
 have HRD:=hid (And.intro ho (And.intro hp (And.intro hm hq)))
 have HR:Hid (doneR t p m ops pos [] = if (applyAllS t ops).2 = 0 then (⟨ops,p,m,pos,[]⟩,0) else (recZ,6)):=rfl
 have HB0:=hid hb0
 have m0:=ho1.cell 0
 have m1:=ho1.cell 1
 have m2:=ho1.cell 2
 have m3:=ho1.cell 3
 simp only [List.getElem?_toArray,List.getElem?_cons_zero,List.getElem?_cons_succ] at m0 m1 m2 m3
 generalize applyAllS t ops = AR at *
 obtain ⟨⟨rk,rt,rc,rs⟩,re⟩:=AR
 generalize doneR t p m ops pos [] = RES at *
 clear hv hok hct hp hm hq ho hol hcn hb0 ho1
 go_enter Tryz.func138,Tryz.ntmps138
 go_wp2_with fail
 refine C.out.mono ?_
 rintro e w1 ⟨v1,i1,rfl,hr1,hb1⟩
 obtain ⟨A1,c1,rfl⟩:=hr1.form
 simp only [Tree.kind,Tree.text,Tree.cols,Tree.kids] at *
 have HB1:=hid (HB0.out.trans (hb1.mono HB0.out.size))
 have HC1:=hid (HO2.out.below hb1)
 have HO1:=hid (HO3.out.below hb1)
 clear m0 m1 m2 m3 hb1 hW0 C HO2 HO3 hr1
 go_upto_region 2 with (first
  | (refine wpList_store_row rfl 24 (.tmp 10) (.tmp 17) rfl w1.heap.size _ rfl rfl 24 _ (HasObj.at0 _ _) (by kernel_rfl) (by simp) (by simp [Value.oneCell']) ?_)
  | fail)
 generalize hX:World.setRow _ _ _ = X
 have hbx:Below w1.heap.size w1 X:=by rw [← hX];exact below_setRowB (blA w1 _) (Nat.le_refl _) _
 have HG:Hid (HasObj X (w.heap.size + 1 + 1) (.cells #[.slice none 0 0,.slice none 0 0,.slice none 0 0,.slice none 0 0,.slice none 0 0] 36)):=hid (HO1.out.below hbx)
 have hcx:=HC1.out.below hbx
 have n0:X.cell? ⟨w.heap.size + 1,0,none⟩ = some (.slice Ap p.length cp):=hcx.cell 0
 have n1:X.cell? ⟨w.heap.size + 1,1,none⟩ = some (.slice Am m.length cm):=hcx.cell 1
 have HBX:=hid (HB1.out.trans (hbx.mono HB1.out.size))
 clear hX hbx hcx HC1 HO1 HB0 HB1
 by_cases h0:re = 0
 ·subst h0
  have HE:=hid (HR.out.trans (if_pos rfl))
  clear HR
  go_wp2_with (first
   | (refine wpList_store_row rfl 36 (.tmp 8) (.tmp 27) rfl (w.heap.size + 1 + 1) _ rfl rfl 36 _ HG.out (by kernel_rfl) (by simp) (by simp [Value.oneCell']) ?_)
   | fail)
  refine bodyPost_ret (v:=.tuple #[.agg #[.slice Ao ops.length co,.slice Ap p.length cp,.slice Am m.length cm,.slice Aq pos.length cq,.slice none 0 0],.int .i64 0]) (results_row_tmp Tryz.results138 _ _ _ (w.heap.size + 1 + 1) 36 _ (0,0) _ rfl (HG.out.row _) rfl Tryz.underlying36 (by kernel_rfl) _ rfl) rfl ?_
  rw [HE.out]
  have kp:∀ {α:Type} {E:Enc α} {xs:List α} {v:Value},SliceR E w (Lt w.heap.size) xs v→SliceR E (X.setRow (w.heap.size + 1 + 1) #[.slice Ao ops.length co,.slice Ap p.length cp,.slice Am m.length cm,.slice Aq pos.length cq,.slice none 0 0]) (Lt (X.setRow (w.heap.size + 1 + 1) #[.slice Ao ops.length co,.slice Ap p.length cp,.slice Am m.length cm,.slice Aq pos.length cq,.slice none 0 0]).heap.size) xs v:=fun h=>h.keep (fun q hq=>(World.cell?_of_block (setRow_other _ _ _ _ (by have:q.block < w.heap.size:=hq;omega))).trans (HBX.out.cell hq)) (fun k hk=>by unfold Lt;rw [size_setRow];exact Nat.lt_of_lt_of_le hk HBX.out.size)
  exact ⟨Ao,co,Ap,cp,Am,cm,Aq,cq,none,0,rfl,kp HRD.out.1,kp HRD.out.2.1,kp HRD.out.2.2.1,kp HRD.out.2.2.2,SliceR.nil_ 0 (Nat.zero_le _) none,below_setRowB HBX.out (by omega) _⟩
 ·have hse:(re != 0) = true:=by simp [h0]
  have HE:=hid (HR.out.trans (if_neg h0))
  clear h0 HR n0 n1
  go_wp2_with (first
   | (refine wpList_store_row rfl 36 (.tmp 8) (.tmp 22) rfl (w.heap.size + 1 + 1) _ rfl rfl 36 _ HG.out (by kernel_rfl) (by simp) (by simp [Value.oneCell']) ?_)
   | fail)
  refine bodyPost_ret (v:=.tuple #[.agg #[.slice none 0 0,.slice none 0 0,.slice none 0 0,.slice none 0 0,.slice none 0 0],.int .i64 6]) (results_row_tmp Tryz.results138 _ _ _ (w.heap.size + 1 + 1) 36 _ (0,0) _ rfl (HG.out.row _) rfl Tryz.underlying36 (by kernel_rfl) _ rfl) rfl ?_
  rw [HE.out]
  exact rec_zero 6 (below_setRowB HBX.out (by omega) _)
def AlcX (wk:World) (o:Obj) (X:World):Prop:=Below wk.heap.size wk X∧HasObj X wk.heap.size o
theorem alc_drew {K:Act→World→Prop} {a:Act} {wk:World} {o:Obj} (hk:∀ X,Hid (AlcX wk o X)→K a X):K a (wk.alloc o).drew:=hk _ ⟨Below.drew (blA wk o),heap_alloc_new wk _⟩
theorem sl_bw {α:Type} {E:Enc α} {W X:World} {xs:List α} {v:Value} (h:SliceR E W (Lt W.heap.size) xs v) [BelowC W X]:SliceR E X (Lt X.heap.size) xs v:=h.below bw (bw (W:=W) (X:=X)).size
theorem row_obj {α:Type} {E:Enc α} {X:World} {b:Nat} {T:TypeId} {x:α} {cs:List Value} {S:Nat→Prop} (h:HasObj X b (.cells cs.toArray T)) (hx:E.R X S x cs) (hb:S b):SliceR E X S [x] (.slice (some ⟨b,0,none⟩) 1 1) :=
 ⟨_,_,cs,rfl,Nat.le_refl _,by simp [maxLen],fun _=>⟨b,0,rfl,hb,fun j u hu=>by rw [Nat.zero_add,h.cell j];simpa using hu⟩,ListR.single hx⟩
theorem of_facts {t:Tree} {p m rr:List Int} {ra rb:Int} (h:ofS t p m = ((rr,ra,rb),0)) (hpl:p.length≤90000) (hml:m.length≤90000):validS t = true∧rr.length≤90000∧0≤ra∧ra≤rb∧rb≤1000:=by
 obtain ⟨hv,hp,_,f1,f2,f3,f4⟩:=of_ok (t:=t) (p:=p) (m:=m) (by rw [h])
 rw [h] at f1 f2 f3 f4
 simp only at f1 f2 f3 f4
 have hcr:=find_count t rr
 have hlr:=kids_le_count (findS t rr).1
 have hvc:=(valid_count hv).1
 refine ⟨hv,?_,f2,f3,by omega⟩
 have h2:=h
 unfold ofS at h2
 split at h2 <;> unfold betV at h2 <;> split at h2
 ·simp at h2
 ·split at h2
  ·simp at h2
  ·have:=congrArg (fun x=>x.1.1.length) h2
   simp [btS] at this
   omega
 ·simp at h2
 ·split at h2
  ·simp at h2
  ·have:=congrArg (fun x=>x.1.1.length) h2
   simp [btS] at this
   omega
theorem few14_bd {t:Tree} {p m:List Int} {items:List Tree} {x:ByteArray} (h:few14S t p m items x = true):countS t≤300∧p.length≤60∧m.length≤60∧countsS items≤100∧x.size≤300:=by
 unfold few14S at h
 simp only [Bool.and_eq_true,decide_eq_true_eq] at h
 have h1:=few_count h.1
 have h2:=few_count h.2.2.2.1
 have h3:countS (rowT items) = 1 + countsS items:=rfl
 exact ⟨by omega,by omega,by omega,by omega,by omega⟩
end Go.Proofs.YtbjcioknfjofkaaGreat
