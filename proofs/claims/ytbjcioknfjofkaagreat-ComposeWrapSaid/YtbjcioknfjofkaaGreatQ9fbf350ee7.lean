/- Texts put together. -/
import Derived.Test.YtbjcioknfjofkaaGreatQ5f0ef1b884
import Derived.Test.YtbjcioknfjofkaaGreatQcfaedea330
import Derived.Test.YtbjcioknfjofkaaGreatQb67d83a4b6
import Derived.Test.YtbjcioknfjofkaaGreatQfe28c9ec3c
import Derived.Test.YtbjcioknfjofkaaGreatQ48e1783e34
import Derived.Test.YtbjcioknfjofkaaGreatQc710d348c5
import Derived.Test.YtbjcioknfjofkaaGreatQ4529715e63
import Derived.Deep.CutBlock
import Derived.Deep.DeepCutAuto
set_option linter.unusedVariables false
set_option linter.unusedSimpArgs false
set_option maxRecDepth 100000
namespace Go.Proofs.YtbjcioknfjofkaaGreat
open Go.RowKit
def NodeP (x:Tree) (w:World) (e:Ending) (w':World):Prop:=∃ B b,e = .returned (.agg #[.int .i64 x.kind,.string x.text,.int .i64 x.cols,.slice B x.kids.length b])∧SliceR treeE w' (Lt w'.heap.size) x.kids (.slice B x.kids.length b)∧Below w.heap.size w w'
theorem head_ok {w:World} {S:Nat→Prop} {items:List Tree} {v:Value} (h:SliceR treeE w S items v):NodeOk (items.headD zeroT):=by
 cases items with
 | nil=>exact ⟨by simp [zeroT,Tree.kind,In64],by simp [zeroT,Tree.cols,In64],Nat.zero_le _⟩
 | cons x l=>exact sl_ok h (k:=0) (by simp)
theorem head_count (items:List Tree):countS (items.headD zeroT)≤countsS items + 1:=by
 cases items with
 | nil=>show 1 + 0≤0 + 1;omega
 | cons x l=>show countS x≤countS x + countsS l + 1;omega
set_option maxHeartbeats 2000000 in
theorem first_any (items : List Tree) (An : Option Addr) (cn : Nat) (w : World) (hi : SliceR treeE w (Lt w.heap.size) items (.slice An items.length cn)) :
    Calls Tryz.prog 24 #[.slice An items.length cn] w (NodeP (items.headD zeroT) w) := by
  have HI := hid hi
  have HO : Hid (HasObj (w.alloc (.cells #[.int .i64 0, .string ⟨#[]⟩, .int .i64 0, .slice none 0 0] 24)) w.heap.size (.cells #[.int .i64 0, .string ⟨#[]⟩, .int .i64 0, .slice none 0 0] 24)) := hid (HasObj.at0 _ _)
  cases items with
  | nil =>
    clear hi
    simp only [List.length_nil]
    go_enter Tryz.func24, Tryz.ntmps24
    go_wp2_with (first
      | (refine wpList_store_row rfl 24 (.tmp 2) (.tmp 6) rfl w.heap.size _ rfl rfl 24 _ HO.out (by kernel_rfl) (by simp) (by simp [Value.oneCell']) ?_)
      | fail)
    refine bodyPost_ret (v := .agg #[.int .i64 0, .string ⟨#[]⟩, .int .i64 0, .slice none 0 0]) (results_cell_row Tryz.results24 _ _ w.heap.size 24 _ (0, 0) _ rfl (setRow_heap _ _ _ _ _ _ HO.out) Tryz.underlying24 rfl (by kernel_rfl)) rfl ?_
    exact ⟨none, 0, rfl, SliceR.nil_ 0 (Nat.zero_le _) none, below_setRowB (blA _ _) (Nat.le_refl _) _⟩
  | cons x l =>
    obtain ⟨_, _, rs, hq, hcap, hmax, hrd, hls⟩ := hi
    cases hq
    obtain ⟨g, o, B, bx, rs2, rfl, hg, x0, x1, x2, x3, _, _, _, hx5, hx6, hrx, hlx⟩ := trees_at (hrd.keep (fun _ _ => rfl) (fun _ h => h)) hls (k := 0) (by simp)
    simp only [Nat.zero_mul, Nat.add_zero, List.getElem_cons_zero] at x0 x1 x2 x3 hx5 hlx
    have HK : Hid (SliceR treeE w (Lt w.heap.size) x.kids (.slice B x.kids.length bx)) := ⟨_, _, rs2, rfl, hx5, hx6, hrx, hlx⟩
    have hgl : g < w.heap.size := hg
    have y0 := ((blA w (.cells #[.int .i64 0, .string ⟨#[]⟩, .int .i64 0, .slice none 0 0] 24)).cell (p := ⟨g, _, none⟩) hgl).trans x0
    have y1 := ((blA w (.cells #[.int .i64 0, .string ⟨#[]⟩, .int .i64 0, .slice none 0 0] 24)).cell (p := ⟨g, _, none⟩) hgl).trans x1
    have y2 := ((blA w (.cells #[.int .i64 0, .string ⟨#[]⟩, .int .i64 0, .slice none 0 0] 24)).cell (p := ⟨g, _, none⟩) hgl).trans x2
    have y3 := ((blA w (.cells #[.int .i64 0, .string ⟨#[]⟩, .int .i64 0, .slice none 0 0] 24)).cell (p := ⟨g, _, none⟩) hgl).trans x3
    clear x0 x1 x2 x3
    have i0 : (((x :: l).length : Int) == 0) = false := by rw [beq_eq_false_iff_ne]; simp only [List.length_cons]; omega
    have i1 : (0 : Int) < ((x :: l).length : Int) := by simp
    generalize (x :: l).length = n at *
    clear hrd hls hrx hlx hx5 hx6 hcap hmax
    go_enter Tryz.func24, Tryz.ntmps24
    go_wp2_with (first
      | (refine wpList_store_row rfl 24 (.tmp 2) (.tmp 9) rfl w.heap.size _ rfl rfl 24 _ HO.out (by kernel_rfl) (by simp) (by simp [Value.oneCell']) ?_)
      | fail)
    refine bodyPost_ret (v := .agg #[.int .i64 x.kind, .string x.text, .int .i64 x.cols, .slice B x.kids.length bx]) (results_cell_row Tryz.results24 _ _ w.heap.size 24 _ (0, 0) _ rfl (setRow_heap _ _ _ _ _ _ HO.out) Tryz.underlying24 rfl (by kernel_rfl)) rfl ?_
    exact ⟨B, bx, rfl, HK.out.below (below_setRowB (blA _ _) (Nat.le_refl _) _) (below_setRowB (blA _ _) (Nat.le_refl _) _).size, below_setRowB (blA _ _) (Nat.le_refl _) _⟩
set_option maxHeartbeats 2000000 in
theorem rfirst_any (items : List Tree) (An : Option Addr) (cn : Nat) (w : World) (hi : SliceR treeE w (Lt w.heap.size) items (.slice An items.length cn)) :
    Calls Tryz.prog 95 #[.slice An items.length cn] w (NodeP (items.headD zeroT) w) := by
  have HI := hid hi
  have HO : Hid (HasObj (w.alloc (.cells #[.int .i64 0, .string ⟨#[]⟩, .int .i64 0, .slice none 0 0] 24)) w.heap.size (.cells #[.int .i64 0, .string ⟨#[]⟩, .int .i64 0, .slice none 0 0] 24)) := hid (HasObj.at0 _ _)
  cases items with
  | nil =>
    clear hi
    simp only [List.length_nil]
    go_enter Tryz.func95, Tryz.ntmps95
    go_wp2_with (first
      | (refine wpList_store_row rfl 24 (.tmp 2) (.tmp 6) rfl w.heap.size _ rfl rfl 24 _ HO.out (by kernel_rfl) (by simp) (by simp [Value.oneCell']) ?_)
      | fail)
    refine bodyPost_ret (v := .agg #[.int .i64 0, .string ⟨#[]⟩, .int .i64 0, .slice none 0 0]) (results_cell_row Tryz.results95 _ _ w.heap.size 24 _ (0, 0) _ rfl (setRow_heap _ _ _ _ _ _ HO.out) Tryz.underlying24 rfl (by kernel_rfl)) rfl ?_
    exact ⟨none, 0, rfl, SliceR.nil_ 0 (Nat.zero_le _) none, below_setRowB (blA _ _) (Nat.le_refl _) _⟩
  | cons x l =>
    obtain ⟨_, _, rs, hq, hcap, hmax, hrd, hls⟩ := hi
    cases hq
    obtain ⟨g, o, B, bx, rs2, rfl, hg, x0, x1, x2, x3, _, _, _, hx5, hx6, hrx, hlx⟩ := trees_at (hrd.keep (fun _ _ => rfl) (fun _ h => h)) hls (k := 0) (by simp)
    simp only [Nat.zero_mul, Nat.add_zero, List.getElem_cons_zero] at x0 x1 x2 x3 hx5 hlx
    have HK : Hid (SliceR treeE w (Lt w.heap.size) x.kids (.slice B x.kids.length bx)) := ⟨_, _, rs2, rfl, hx5, hx6, hrx, hlx⟩
    have hgl : g < w.heap.size := hg
    have y0 := ((blA w (.cells #[.int .i64 0, .string ⟨#[]⟩, .int .i64 0, .slice none 0 0] 24)).cell (p := ⟨g, _, none⟩) hgl).trans x0
    have y1 := ((blA w (.cells #[.int .i64 0, .string ⟨#[]⟩, .int .i64 0, .slice none 0 0] 24)).cell (p := ⟨g, _, none⟩) hgl).trans x1
    have y2 := ((blA w (.cells #[.int .i64 0, .string ⟨#[]⟩, .int .i64 0, .slice none 0 0] 24)).cell (p := ⟨g, _, none⟩) hgl).trans x2
    have y3 := ((blA w (.cells #[.int .i64 0, .string ⟨#[]⟩, .int .i64 0, .slice none 0 0] 24)).cell (p := ⟨g, _, none⟩) hgl).trans x3
    clear x0 x1 x2 x3
    have i0 : (((x :: l).length : Int) == 0) = false := by rw [beq_eq_false_iff_ne]; simp only [List.length_cons]; omega
    have i1 : (0 : Int) < ((x :: l).length : Int) := by simp
    generalize (x :: l).length = n at *
    clear hrd hls hrx hlx hx5 hx6 hcap hmax
    go_enter Tryz.func95, Tryz.ntmps95
    go_wp2_with (first
      | (refine wpList_store_row rfl 24 (.tmp 2) (.tmp 9) rfl w.heap.size _ rfl rfl 24 _ HO.out (by kernel_rfl) (by simp) (by simp [Value.oneCell']) ?_)
      | fail)
    refine bodyPost_ret (v := .agg #[.int .i64 x.kind, .string x.text, .int .i64 x.cols, .slice B x.kids.length bx]) (results_cell_row Tryz.results95 _ _ w.heap.size 24 _ (0, 0) _ rfl (setRow_heap _ _ _ _ _ _ HO.out) Tryz.underlying24 rfl (by kernel_rfl)) rfl ?_
    exact ⟨B, bx, rfl, HK.out.below (below_setRowB (blA _ _) (Nat.le_refl _) _) (below_setRowB (blA _ _) (Nat.le_refl _) _).size, below_setRowB (blA _ _) (Nat.le_refl _) _⟩
set_option maxHeartbeats 4000000 in
theorem r14done_any (t:Tree) (p m pos:List Int) (ops:List OpD) (A Ap Am Ao Aq:Option Addr) (cap cp cm co cq:Nat) (w:World) (hv:SliceR treeE w (Lt w.heap.size) t.kids (.slice A t.kids.length cap)) (hok:NodeOk t) (hct:countS t≤900000) (hp:IntsR w (Lt w.heap.size) p (.slice Ap p.length cp)) (hm:IntsR w (Lt w.heap.size) m (.slice Am m.length cm)) (hq:IntsR w (Lt w.heap.size) pos (.slice Aq pos.length cq)) (ho:SliceR opE w (Lt w.heap.size) ops (.slice Ao ops.length co)) (hol:ops.length≤1000) (hcn:∀ k (hk:k < ops.length),countsS ops[k].nodes≤100000) :
  Calls Tryz.prog 138 #[.agg #[.int .i64 t.kind,.string t.text,.int .i64 t.cols,.slice A t.kids.length cap],.agg #[.slice Ap p.length cp,.slice Am m.length cm],.slice Ao ops.length co,.slice Aq pos.length cq] w (RecB w (doneR t p m ops pos [])):=by
 obtain ⟨W0,hW0⟩:∃ W0,((w.alloc (.cells #[.int .i64 t.kind,.string t.text,.int .i64 t.cols,.slice A t.kids.length cap] 24)).alloc (.cells #[.slice Ap p.length cp,.slice Am m.length cm] 33)).alloc (.cells #[.slice none 0 0,.slice none 0 0,.slice none 0 0,.slice none 0 0,.slice none 0 0] 36) = W0:=⟨_,rfl⟩
 have hb0:Below w.heap.size w W0:=by rw [← hW0];exact blAlloc (blAlloc (blA _ _) _) _
 have ho1:HasObj W0 w.heap.size (.cells #[.int .i64 t.kind,.string t.text,.int .i64 t.cols,.slice A t.kids.length cap] 24):=by rw [← hW0];exact ((HasObj.at0 _ _).al _).al _
 have HO2:Hid (HasObj W0 (w.heap.size + 1) (.cells #[.slice Ap p.length cp,.slice Am m.length cm] 33)):=by show HasObj _ _ _;rw [← hW0];exact (HasObj.at1 _ _ _).al _
 have HO3:Hid (HasObj W0 (w.heap.size + 1 + 1) (.cells #[.slice none 0 0,.slice none 0 0,.slice none 0 0,.slice none 0 0,.slice none 0 0] 36)):=by show HasObj _ _ _;rw [← hW0];exact HasObj.at2 _ _ _ _
 have C:=hid (applyAll_any t ops A Ao cap co W0 (hv.below hb0 hb0.size) hok hct (ho.below hb0 hb0.size) hol hcn)
 have HRD:=hid (And.intro ho (And.intro hp (And.intro hm hq)))
 have HR:Hid (doneR t p m ops pos [] = if (applyAllS t ops).2 = 0 then (⟨ops,p,m,pos,[]⟩,0) else (recZ,6)):=rfl
 have HB0:=hid hb0
 have m0:=ho1.cell 0
 have m1:=ho1.cell 1
 have m2:=ho1.cell 2
 have m3:=ho1.cell 3
 simp only [List.getElem?_toArray,List.getElem?_cons_zero,List.getElem?_cons_succ] at m0 m1 m2 m3
 generalize applyAllS t ops = AR at *
 obtain ⟨⟨rk,rt,rc,rs⟩,re⟩:=AR
 generalize doneR t p m ops pos [] = RES at *
 clear hv hok hct hp hm hq ho hol hcn hb0 ho1
 go_enter Tryz.func138,Tryz.ntmps138
 go_wp2_with fail
 refine C.out.mono ?_
 rintro e w1 ⟨v1,i1,rfl,hr1,hb1⟩
 obtain ⟨A1,c1,rfl⟩:=hr1.form
 simp only [Tree.kind,Tree.text,Tree.cols,Tree.kids] at *
 have HB1:=hid (HB0.out.trans (hb1.mono HB0.out.size))
 have HC1:=hid (HO2.out.below hb1)
 have HO1:=hid (HO3.out.below hb1)
 clear m0 m1 m2 m3 hb1 hW0 C HO2 HO3 hr1
 go_upto_region 2 with (first
  | (refine wpList_store_row rfl 24 (.tmp 10) (.tmp 17) rfl w1.heap.size _ rfl rfl 24 _ (HasObj.at0 _ _) (by kernel_rfl) (by simp) (by simp [Value.oneCell']) ?_)
  | fail)
 generalize hX:World.setRow _ _ _ = X
 have hbx:Below w1.heap.size w1 X:=by rw [← hX];exact below_setRowB (blA w1 _) (Nat.le_refl _) _
 have HG:Hid (HasObj X (w.heap.size + 1 + 1) (.cells #[.slice none 0 0,.slice none 0 0,.slice none 0 0,.slice none 0 0,.slice none 0 0] 36)):=hid (HO1.out.below hbx)
 have hcx:=HC1.out.below hbx
 have n0:X.cell? ⟨w.heap.size + 1,0,none⟩ = some (.slice Ap p.length cp):=hcx.cell 0
 have n1:X.cell? ⟨w.heap.size + 1,1,none⟩ = some (.slice Am m.length cm):=hcx.cell 1
 have HBX:=hid (HB1.out.trans (hbx.mono HB1.out.size))
 clear hX hbx hcx HC1 HO1 HB0 HB1
 by_cases h0:re = 0
 ·subst h0
  have HE:=hid (HR.out.trans (if_pos rfl))
  clear HR
  go_wp2_with (first
   | (refine wpList_store_row rfl 36 (.tmp 8) (.tmp 27) rfl (w.heap.size + 1 + 1) _ rfl rfl 36 _ HG.out (by kernel_rfl) (by simp) (by simp [Value.oneCell']) ?_)
   | fail)
  refine bodyPost_ret (v:=.tuple #[.agg #[.slice Ao ops.length co,.slice Ap p.length cp,.slice Am m.length cm,.slice Aq pos.length cq,.slice none 0 0],.int .i64 0]) (results_row_tmp Tryz.results138 _ _ _ (w.heap.size + 1 + 1) 36 _ (0,0) _ rfl (HG.out.row _) rfl Tryz.underlying36 (by kernel_rfl) _ rfl) rfl ?_
  rw [HE.out]
  have kp:∀ {α:Type} {E:Enc α} {xs:List α} {v:Value},SliceR E w (Lt w.heap.size) xs v→SliceR E (X.setRow (w.heap.size + 1 + 1) #[.slice Ao ops.length co,.slice Ap p.length cp,.slice Am m.length cm,.slice Aq pos.length cq,.slice none 0 0]) (Lt (X.setRow (w.heap.size + 1 + 1) #[.slice Ao ops.length co,.slice Ap p.length cp,.slice Am m.length cm,.slice Aq pos.length cq,.slice none 0 0]).heap.size) xs v:=fun h=>h.keep (fun q hq=>(World.cell?_of_block (setRow_other _ _ _ _ (by have:q.block < w.heap.size:=hq;omega))).trans (HBX.out.cell hq)) (fun k hk=>by unfold Lt;rw [size_setRow];exact Nat.lt_of_lt_of_le hk HBX.out.size)
  exact ⟨Ao,co,Ap,cp,Am,cm,Aq,cq,none,0,rfl,kp HRD.out.1,kp HRD.out.2.1,kp HRD.out.2.2.1,kp HRD.out.2.2.2,SliceR.nil_ 0 (Nat.zero_le _) none,below_setRowB HBX.out (by omega) _⟩
 ·have hse:(re != 0) = true:=by simp [h0]
  have HE:=hid (HR.out.trans (if_neg h0))
  clear h0 HR n0 n1
  go_wp2_with (first
   | (refine wpList_store_row rfl 36 (.tmp 8) (.tmp 22) rfl (w.heap.size + 1 + 1) _ rfl rfl 36 _ HG.out (by kernel_rfl) (by simp) (by simp [Value.oneCell']) ?_)
   | fail)
  refine bodyPost_ret (v:=.tuple #[.agg #[.slice none 0 0,.slice none 0 0,.slice none 0 0,.slice none 0 0,.slice none 0 0],.int .i64 6]) (results_row_tmp Tryz.results138 _ _ _ (w.heap.size + 1 + 1) 36 _ (0,0) _ rfl (HG.out.row _) rfl Tryz.underlying36 (by kernel_rfl) _ rfl) rfl ?_
  rw [HE.out]
  exact rec_zero 6 (below_setRowB HBX.out (by omega) _)
theorem row_obj {α:Type} {E:Enc α} {X:World} {b:Nat} {T:TypeId} {x:α} {cs:List Value} {S:Nat→Prop} (h:HasObj X b (.cells cs.toArray T)) (hx:E.R X S x cs) (hb:S b):SliceR E X S [x] (.slice (some ⟨b,0,none⟩) 1 1) :=
 ⟨_,_,cs,rfl,Nat.le_refl _,by simp [maxLen],fun _=>⟨b,0,rfl,hb,fun j u hu=>by rw [Nat.zero_add,h.cell j];simpa using hu⟩,ListR.single hx⟩
set_option maxHeartbeats 4000000 in
theorem run2_any (t:Tree) (p m:List Int) (s:Int) (items:List Tree) (x:ByteArray) (f:Bool) (A Ap Am An:Option Addr) (cap cp cm cn:Nat) (w:World) (RES:RecD × Int) (hi:SliceR treeE w (Lt w.heap.size) items (.slice An items.length cn))
  (hC:∀ W B b,Below w.heap.size w W→SliceR treeE W (Lt W.heap.size) (items.headD zeroT).kids (.slice B (items.headD zeroT).kids.length b)→Calls Tryz.prog 23 #[.agg #[.int .i64 t.kind,.string t.text,.int .i64 t.cols,.slice A t.kids.length cap],.agg #[.slice Ap p.length cp,.slice Am m.length cm],.agg #[.int .i64 (items.headD zeroT).kind,.string (items.headD zeroT).text,.int .i64 (items.headD zeroT).cols,.slice B (items.headD zeroT).kids.length b],.int .i64 s] W (RecB W RES)) :
  Calls Tryz.prog 27 #[.agg #[.int .i64 t.kind,.string t.text,.int .i64 t.cols,.slice A t.kids.length cap],.agg #[.slice Ap p.length cp,.slice Am m.length cm],.agg #[.int .i64 2,.slice An items.length cn,.int .i64 s,.string x,.bool f]] w (RecB w RES):=by
 obtain ⟨W0,hW0⟩:∃ W0,(((w.alloc (.cells #[.int .i64 t.kind,.string t.text,.int .i64 t.cols,.slice A t.kids.length cap] 24)).alloc (.cells #[.slice Ap p.length cp,.slice Am m.length cm] 33)).alloc (.cells #[.int .i64 2,.slice An items.length cn,.int .i64 s,.string x,.bool f] 44)).alloc (.cells #[.slice none 0 0,.slice none 0 0,.slice none 0 0,.slice none 0 0,.slice none 0 0] 36) = W0:=⟨_,rfl⟩
 have hb0:Below w.heap.size w W0:=by rw [← hW0];exact blAlloc (blAlloc (blAlloc (blA _ _) _) _) _
 have ho1:HasObj W0 w.heap.size (.cells #[.int .i64 t.kind,.string t.text,.int .i64 t.cols,.slice A t.kids.length cap] 24):=by rw [← hW0];exact (((HasObj.at0 _ _).al _).al _).al _
 have ho2:HasObj W0 (w.heap.size + 1) (.cells #[.slice Ap p.length cp,.slice Am m.length cm] 33):=by rw [← hW0];exact ((HasObj.at1 _ _ _).al _).al _
 have ho3:HasObj W0 (w.heap.size + 1 + 1) (.cells #[.int .i64 2,.slice An items.length cn,.int .i64 s,.string x,.bool f] 44):=by rw [← hW0];exact (HasObj.at2 _ _ _ _).al _
 have HG:Hid (HasObj W0 (w.heap.size + 1 + 1 + 1) (.cells #[.slice none 0 0,.slice none 0 0,.slice none 0 0,.slice none 0 0,.slice none 0 0] 36)):=by show HasObj _ _ _;rw [← hW0];exact HasObj.new _ _ _ (by simp)
 have HO1:=hid ho1
 have HO2:=hid ho2
 have HO3:=hid ho3
 have HN1:Hid (w.heap.size≠w.heap.size + 1 + 1 + 1):=by show _≠_;omega
 have HN2:Hid (w.heap.size + 1≠w.heap.size + 1 + 1 + 1):=by show _≠_;omega
 have HN3:Hid (w.heap.size + 1 + 1≠w.heap.size + 1 + 1 + 1):=by show _≠_;omega
 have HWB:=hid hb0
 have CF:Hid (∀ W,Below W0.heap.size W0 W→Calls Tryz.prog 24 #[.slice An items.length cn] W (NodeP (items.headD zeroT) W)):=fun W hW=>by
  have h:=hb0.trans (hW.mono hb0.size)
  exact first_any items An cn W (hi.below h h.size)
 have CW:=hid (fun W B b (hW:Below W0.heap.size W0 W) h=>hC W B b (hb0.trans (hW.mono hb0.size)) h)
 generalize items.headD zeroT = it at CF CW
 have c0:W0.cell? ⟨w.heap.size + 1 + 1,0,none⟩ = some (.int .i64 2):=ho3.cell 0
 have HW:Hid (Below W0.heap.size W0 W0):=hid (Below.refl _ _)
 clear hC hi hb0 ho1 ho2 ho3
 go_enter Tryz.func27,Tryz.ntmps27
 go_upto_region 1 with fail
 try rw [hW0]
 clear hW0
 go_upto_region 7 with fail
 clear c0
 refine wp_region_noPanic ?_
 refine wp_region_held_drew (S:=fun w'=>Kept (fun k=>k = w.heap.size + 1 + 1 + 1) W0 w') (by kernel_rfl) (kwt HW.out) (fun hHeld=>?_)
 refine wpAnyH_take (i:=0) (oi:=⟨some 30,_,_,_,_,_⟩) (v:=_) rfl (by kernel_rfl) (by kernel_rfl) (by kernel_rfl) (fun _ _ _ h=>h) (yif_row 24 (.tmp 3) rfl (by rfl) _ rfl (fun w hS=>hS.obj HO1.out HN1.out) Tryz.underlying24 (by kernel_rfl)) hHeld ?_
 try simp only [Act.put,List.setIfInBounds_toArray,List.set_cons_zero,List.set_cons_succ]
 refine wpAnyH_take (i:=1) (oi:=⟨some 31,_,_,_,_,_⟩) (v:=_) rfl (by kernel_rfl) (by kernel_rfl) (by kernel_rfl) (fun _ _ _ h=>h) (yif_row 33 (.tmp 4) rfl (by rfl) _ rfl (fun w hS=>hS.obj HO2.out HN2.out) Tryz.underlying33 (by kernel_rfl)) hHeld ?_
 try simp only [Act.put,List.setIfInBounds_toArray,List.set_cons_zero,List.set_cons_succ]
 refine wpAnyH_take (i:=2) (oi:=⟨some 32,_,_,_,_,_⟩) (v:=_) rfl (by kernel_rfl) (by kernel_rfl) (by kernel_rfl) (fun _ _ _ h=>h) (Or.inl ⟨by rfl,fun W hS=>by clear hS;go_simp;try with_reducible rfl⟩) hHeld ?_
 try simp only [Act.put,List.setIfInBounds_toArray,List.set_cons_zero,List.set_cons_succ]
 refine wpAnyH_take (i:=3) (oi:=⟨some 33,_,_,_,_,_⟩) (v:=_) rfl (by kernel_rfl) (by kernel_rfl) (by kernel_rfl) (fun _ _ _ h=>h) (Or.inl ⟨by rfl,fun W hS=>by have h:W.cell? ⟨(w.heap.size + 1 + 1),1,none⟩ = some (.slice An items.length cn):=(hS.obj HO3.out HN3.out).cell 1;clear hS;go_simp;try with_reducible rfl⟩) hHeld ?_
 try simp only [Act.put,List.setIfInBounds_toArray,List.set_cons_zero,List.set_cons_succ]
 refine wpAnyH_take (i:=5) (oi:=⟨some 35,_,_,_,_,_⟩) (v:=_) rfl (by kernel_rfl) (by kernel_rfl) (by kernel_rfl) (fun _ _ _ h=>h) (Or.inl ⟨by rfl,fun W hS=>by clear hS;go_simp;try with_reducible rfl⟩) hHeld ?_
 try simp only [Act.put,List.setIfInBounds_toArray,List.set_cons_zero,List.set_cons_succ]
 refine wpAnyH_take (i:=6) (oi:=⟨some 36,_,_,_,_,_⟩) (v:=_) rfl (by kernel_rfl) (by kernel_rfl) (by kernel_rfl) (fun _ _ _ h=>h) (Or.inl ⟨by rfl,fun W hS=>by have h:W.cell? ⟨(w.heap.size + 1 + 1),2,none⟩ = some (.int .i64 s):=(hS.obj HO3.out HN3.out).cell 2;clear hS;go_simp;try with_reducible rfl⟩) hHeld ?_
 try simp only [Act.put,List.setIfInBounds_toArray,List.set_cons_zero,List.set_cons_succ]
 refine wpAnyH_ready (rs:=[4]) (by kernel_rfl) (by simp) ?_
 refine (AllReadyH.cons (o:=⟨some 34,_,_,_,_,_⟩) rfl (fun K hK=>?_) AllReadyH.nil)
 go_simp
 refine Calls.mono (CF.out _ (bwt HW.out)) ?_
 rintro e wk ⟨B1,b1,rfl,hk1,hb1⟩
 have HK:=hid hk1
 have HW:=hid ((bwt HW.out).trans (hb1.mono (bwt HW.out).size))
 clear hk1 hb1
 refine hK.out _ _ (kwt HW.out) (fun hHeld=>?_)
 clear hK K
 try simp only [Act.put,List.setIfInBounds_toArray,List.set_cons_zero,List.set_cons_succ]
 refine wpAnyH_ready (rs:=[7]) (by kernel_rfl) (by simp) ?_
 refine (AllReadyH.cons (o:=⟨some 37,_,_,_,_,_⟩) rfl (fun K hK=>?_) AllReadyH.nil)
 go_simp
 refine Calls.mono (CW.out _ _ _ (bwt HW.out) (HK.out.below bw bw.size)) ?_
 intro e wk hrec
 have HREC:=hid hrec
 obtain ⟨Ao9,co9,Ap9,cp9,Am9,cm9,Aap9,cap9,Aam9,cam9,rfl,_,_,_,_,_,hbw⟩:=hrec
 have HW:=hid ((bwt HW.out).trans (hbw.mono (bwt HW.out).size))
 have HGW:=hid (HG.out.below HW.out)
 clear hbw
 refine hK.out _ _ (kwt HW.out) (fun hHeld=>?_)
 clear hK K
 try simp only [Act.put,List.setIfInBounds_toArray,List.set_cons_zero,List.set_cons_succ]
 refine wpAnyH_take (i:=8) (oi:=⟨some 38,_,_,_,_,_⟩) (v:=_) rfl (by kernel_rfl) (by kernel_rfl) (by kernel_rfl) (fun _ _ _ h=>h) (Or.inl ⟨by rfl,fun W hS=>by clear hS;go_simp;try with_reducible rfl⟩) hHeld ?_
 try simp only [Act.put,List.setIfInBounds_toArray,List.set_cons_zero,List.set_cons_succ]
 refine wpAnyH_take (i:=9) (oi:=⟨some 39,_,_,_,_,_⟩) (v:=_) rfl (by kernel_rfl) (by kernel_rfl) (by kernel_rfl) (fun _ _ _ h=>h) (Or.inl ⟨by rfl,fun W hS=>by clear hS;go_simp;try with_reducible rfl⟩) hHeld ?_
 try simp only [Act.put,List.setIfInBounds_toArray,List.set_cons_zero,List.set_cons_succ]
 refine wpAnyH_ready (rs:=[10]) (by kernel_rfl) (by simp) ?_
 refine (AllReadyH.cons (o:=⟨none,_,_,_,_,_⟩) rfl (fun K hK=>?_) AllReadyH.nil)
 rw [if_pos (by rfl)]
 refine wp_store_row 36 (.tmp 6) (.tmp 38) rfl (w.heap.size + 1 + 1 + 1) #[.slice Ao9 RES.1.ops.length co9,.slice Ap9 RES.1.bp.length cp9,.slice Am9 RES.1.bm.length cm9,.slice Aap9 RES.1.ap.length cap9,.slice Aam9 RES.1.am.length cam9] rfl rfl 36 _ HGW.out (by kernel_rfl) (by simp) (by simp [Value.oneCell']) ?_
 refine put_named HGW.out (fun X9 HX9=>?_)
 refine hK.out _ _ ((kwt HW.out).trans' HX9.out.1) (fun hHeld=>?_)
 clear hK K
 try simp only [Act.put,List.setIfInBounds_toArray,List.set_cons_zero,List.set_cons_succ]
 refine wpAnyH_take (i:=11) (oi:=⟨some 7,_,_,_,_,_⟩) (v:=_) rfl (by kernel_rfl) (by kernel_rfl) (by kernel_rfl) (fun _ _ _ h=>h) (Or.inl ⟨by rfl,fun W hS=>by clear hS;go_simp;try with_reducible rfl⟩) hHeld ?_
 try simp only [Act.put,List.setIfInBounds_toArray,List.set_cons_zero,List.set_cons_succ]
 refine wpAnyH_done (by kernel_rfl) ?_ _
 refine NoPanic.normal ?_
 go_wp2_with fail
 refine bodyPost_ret (v:=.tuple #[.agg #[.slice Ao9 RES.1.ops.length co9,.slice Ap9 RES.1.bp.length cp9,.slice Am9 RES.1.bm.length cm9,.slice Aap9 RES.1.ap.length cap9,.slice Aam9 RES.1.am.length cam9],.int .i64 RES.2]) (results_row_tmp Tryz.results27 _ _ _ (w.heap.size + 1 + 1 + 1) 36 _ (0,0) _ rfl HX9.out.2.1 rfl Tryz.underlying36 (by kernel_rfl) _ rfl) rfl ?_
 exact RecB.put (arr:=#[]) HREC.out HGW.out HX9.out.1 HX9.out.2.2 (HWB.out.trans (HW.out.mono HWB.out.size)) (by omega)
set_option maxHeartbeats 4000000 in
theorem rrun2_any (t:Tree) (p m:List Int) (s:Int) (items:List Tree) (x:ByteArray) (f:Bool) (A Ap Am An:Option Addr) (cap cp cm cn:Nat) (w:World) (RES:RecD × Int) (hi:SliceR treeE w (Lt w.heap.size) items (.slice An items.length cn))
  (hC:∀ W B b,Below w.heap.size w W→SliceR treeE W (Lt W.heap.size) (items.headD zeroT).kids (.slice B (items.headD zeroT).kids.length b)→Calls Tryz.prog 94 #[.agg #[.int .i64 t.kind,.string t.text,.int .i64 t.cols,.slice A t.kids.length cap],.agg #[.slice Ap p.length cp,.slice Am m.length cm],.agg #[.int .i64 (items.headD zeroT).kind,.string (items.headD zeroT).text,.int .i64 (items.headD zeroT).cols,.slice B (items.headD zeroT).kids.length b],.int .i64 s] W (RecB W RES)) :
  Calls Tryz.prog 57 #[.agg #[.int .i64 t.kind,.string t.text,.int .i64 t.cols,.slice A t.kids.length cap],.agg #[.slice Ap p.length cp,.slice Am m.length cm],.agg #[.int .i64 2,.slice An items.length cn,.int .i64 s,.string x,.bool f]] w (RecB w RES):=by
 obtain ⟨W0,hW0⟩:∃ W0,(((w.alloc (.cells #[.int .i64 t.kind,.string t.text,.int .i64 t.cols,.slice A t.kids.length cap] 24)).alloc (.cells #[.slice Ap p.length cp,.slice Am m.length cm] 33)).alloc (.cells #[.int .i64 2,.slice An items.length cn,.int .i64 s,.string x,.bool f] 44)).alloc (.cells #[.slice none 0 0,.slice none 0 0,.slice none 0 0,.slice none 0 0,.slice none 0 0] 36) = W0:=⟨_,rfl⟩
 have hb0:Below w.heap.size w W0:=by rw [← hW0];exact blAlloc (blAlloc (blAlloc (blA _ _) _) _) _
 have ho1:HasObj W0 w.heap.size (.cells #[.int .i64 t.kind,.string t.text,.int .i64 t.cols,.slice A t.kids.length cap] 24):=by rw [← hW0];exact (((HasObj.at0 _ _).al _).al _).al _
 have ho2:HasObj W0 (w.heap.size + 1) (.cells #[.slice Ap p.length cp,.slice Am m.length cm] 33):=by rw [← hW0];exact ((HasObj.at1 _ _ _).al _).al _
 have ho3:HasObj W0 (w.heap.size + 1 + 1) (.cells #[.int .i64 2,.slice An items.length cn,.int .i64 s,.string x,.bool f] 44):=by rw [← hW0];exact (HasObj.at2 _ _ _ _).al _
 have HG:Hid (HasObj W0 (w.heap.size + 1 + 1 + 1) (.cells #[.slice none 0 0,.slice none 0 0,.slice none 0 0,.slice none 0 0,.slice none 0 0] 36)):=by show HasObj _ _ _;rw [← hW0];exact HasObj.new _ _ _ (by simp)
 have HO1:=hid ho1
 have HO2:=hid ho2
 have HO3:=hid ho3
 have HN1:Hid (w.heap.size≠w.heap.size + 1 + 1 + 1):=by show _≠_;omega
 have HN2:Hid (w.heap.size + 1≠w.heap.size + 1 + 1 + 1):=by show _≠_;omega
 have HN3:Hid (w.heap.size + 1 + 1≠w.heap.size + 1 + 1 + 1):=by show _≠_;omega
 have HWB:=hid hb0
 have CF:Hid (∀ W,Below W0.heap.size W0 W→Calls Tryz.prog 95 #[.slice An items.length cn] W (NodeP (items.headD zeroT) W)):=fun W hW=>by
  have h:=hb0.trans (hW.mono hb0.size)
  exact rfirst_any items An cn W (hi.below h h.size)
 have CW:=hid (fun W B b (hW:Below W0.heap.size W0 W) h=>hC W B b (hb0.trans (hW.mono hb0.size)) h)
 generalize items.headD zeroT = it at CF CW
 have c0:W0.cell? ⟨w.heap.size + 1 + 1,0,none⟩ = some (.int .i64 2):=ho3.cell 0
 have HW:Hid (Below W0.heap.size W0 W0):=hid (Below.refl _ _)
 clear hC hi hb0 ho1 ho2 ho3
 go_enter Tryz.func57,Tryz.ntmps57
 go_upto_region 1 with fail
 try rw [hW0]
 clear hW0
 go_upto_region 7 with fail
 clear c0
 refine wp_region_noPanic ?_
 refine wp_region_held_drew (S:=fun w'=>Kept (fun k=>k = w.heap.size + 1 + 1 + 1) W0 w') (by kernel_rfl) (kwt HW.out) (fun hHeld=>?_)
 refine wpAnyH_take (i:=0) (oi:=⟨some 30,_,_,_,_,_⟩) (v:=_) rfl (by kernel_rfl) (by kernel_rfl) (by kernel_rfl) (fun _ _ _ h=>h) (yif_row 24 (.tmp 3) rfl (by rfl) _ rfl (fun w hS=>hS.obj HO1.out HN1.out) Tryz.underlying24 (by kernel_rfl)) hHeld ?_
 try simp only [Act.put,List.setIfInBounds_toArray,List.set_cons_zero,List.set_cons_succ]
 refine wpAnyH_take (i:=1) (oi:=⟨some 31,_,_,_,_,_⟩) (v:=_) rfl (by kernel_rfl) (by kernel_rfl) (by kernel_rfl) (fun _ _ _ h=>h) (yif_row 33 (.tmp 4) rfl (by rfl) _ rfl (fun w hS=>hS.obj HO2.out HN2.out) Tryz.underlying33 (by kernel_rfl)) hHeld ?_
 try simp only [Act.put,List.setIfInBounds_toArray,List.set_cons_zero,List.set_cons_succ]
 refine wpAnyH_take (i:=2) (oi:=⟨some 32,_,_,_,_,_⟩) (v:=_) rfl (by kernel_rfl) (by kernel_rfl) (by kernel_rfl) (fun _ _ _ h=>h) (Or.inl ⟨by rfl,fun W hS=>by clear hS;go_simp;try with_reducible rfl⟩) hHeld ?_
 try simp only [Act.put,List.setIfInBounds_toArray,List.set_cons_zero,List.set_cons_succ]
 refine wpAnyH_take (i:=3) (oi:=⟨some 33,_,_,_,_,_⟩) (v:=_) rfl (by kernel_rfl) (by kernel_rfl) (by kernel_rfl) (fun _ _ _ h=>h) (Or.inl ⟨by rfl,fun W hS=>by have h:W.cell? ⟨(w.heap.size + 1 + 1),1,none⟩ = some (.slice An items.length cn):=(hS.obj HO3.out HN3.out).cell 1;clear hS;go_simp;try with_reducible rfl⟩) hHeld ?_
 try simp only [Act.put,List.setIfInBounds_toArray,List.set_cons_zero,List.set_cons_succ]
 refine wpAnyH_take (i:=5) (oi:=⟨some 35,_,_,_,_,_⟩) (v:=_) rfl (by kernel_rfl) (by kernel_rfl) (by kernel_rfl) (fun _ _ _ h=>h) (Or.inl ⟨by rfl,fun W hS=>by clear hS;go_simp;try with_reducible rfl⟩) hHeld ?_
 try simp only [Act.put,List.setIfInBounds_toArray,List.set_cons_zero,List.set_cons_succ]
 refine wpAnyH_take (i:=6) (oi:=⟨some 36,_,_,_,_,_⟩) (v:=_) rfl (by kernel_rfl) (by kernel_rfl) (by kernel_rfl) (fun _ _ _ h=>h) (Or.inl ⟨by rfl,fun W hS=>by have h:W.cell? ⟨(w.heap.size + 1 + 1),2,none⟩ = some (.int .i64 s):=(hS.obj HO3.out HN3.out).cell 2;clear hS;go_simp;try with_reducible rfl⟩) hHeld ?_
 try simp only [Act.put,List.setIfInBounds_toArray,List.set_cons_zero,List.set_cons_succ]
 refine wpAnyH_ready (rs:=[4]) (by kernel_rfl) (by simp) ?_
 refine (AllReadyH.cons (o:=⟨some 34,_,_,_,_,_⟩) rfl (fun K hK=>?_) AllReadyH.nil)
 go_simp
 refine Calls.mono (CF.out _ (bwt HW.out)) ?_
 rintro e wk ⟨B1,b1,rfl,hk1,hb1⟩
 have HK:=hid hk1
 have HW:=hid ((bwt HW.out).trans (hb1.mono (bwt HW.out).size))
 clear hk1 hb1
 refine hK.out _ _ (kwt HW.out) (fun hHeld=>?_)
 clear hK K
 try simp only [Act.put,List.setIfInBounds_toArray,List.set_cons_zero,List.set_cons_succ]
 refine wpAnyH_ready (rs:=[7]) (by kernel_rfl) (by simp) ?_
 refine (AllReadyH.cons (o:=⟨some 37,_,_,_,_,_⟩) rfl (fun K hK=>?_) AllReadyH.nil)
 go_simp
 refine Calls.mono (CW.out _ _ _ (bwt HW.out) (HK.out.below bw bw.size)) ?_
 intro e wk hrec
 have HREC:=hid hrec
 obtain ⟨Ao9,co9,Ap9,cp9,Am9,cm9,Aap9,cap9,Aam9,cam9,rfl,_,_,_,_,_,hbw⟩:=hrec
 have HW:=hid ((bwt HW.out).trans (hbw.mono (bwt HW.out).size))
 have HGW:=hid (HG.out.below HW.out)
 clear hbw
 refine hK.out _ _ (kwt HW.out) (fun hHeld=>?_)
 clear hK K
 try simp only [Act.put,List.setIfInBounds_toArray,List.set_cons_zero,List.set_cons_succ]
 refine wpAnyH_take (i:=8) (oi:=⟨some 38,_,_,_,_,_⟩) (v:=_) rfl (by kernel_rfl) (by kernel_rfl) (by kernel_rfl) (fun _ _ _ h=>h) (Or.inl ⟨by rfl,fun W hS=>by clear hS;go_simp;try with_reducible rfl⟩) hHeld ?_
 try simp only [Act.put,List.setIfInBounds_toArray,List.set_cons_zero,List.set_cons_succ]
 refine wpAnyH_take (i:=9) (oi:=⟨some 39,_,_,_,_,_⟩) (v:=_) rfl (by kernel_rfl) (by kernel_rfl) (by kernel_rfl) (fun _ _ _ h=>h) (Or.inl ⟨by rfl,fun W hS=>by clear hS;go_simp;try with_reducible rfl⟩) hHeld ?_
 try simp only [Act.put,List.setIfInBounds_toArray,List.set_cons_zero,List.set_cons_succ]
 refine wpAnyH_ready (rs:=[10]) (by kernel_rfl) (by simp) ?_
 refine (AllReadyH.cons (o:=⟨none,_,_,_,_,_⟩) rfl (fun K hK=>?_) AllReadyH.nil)
 rw [if_pos (by rfl)]
 refine wp_store_row 36 (.tmp 6) (.tmp 38) rfl (w.heap.size + 1 + 1 + 1) #[.slice Ao9 RES.1.ops.length co9,.slice Ap9 RES.1.bp.length cp9,.slice Am9 RES.1.bm.length cm9,.slice Aap9 RES.1.ap.length cap9,.slice Aam9 RES.1.am.length cam9] rfl rfl 36 _ HGW.out (by kernel_rfl) (by simp) (by simp [Value.oneCell']) ?_
 refine put_named HGW.out (fun X9 HX9=>?_)
 refine hK.out _ _ ((kwt HW.out).trans' HX9.out.1) (fun hHeld=>?_)
 clear hK K
 try simp only [Act.put,List.setIfInBounds_toArray,List.set_cons_zero,List.set_cons_succ]
 refine wpAnyH_take (i:=11) (oi:=⟨some 7,_,_,_,_,_⟩) (v:=_) rfl (by kernel_rfl) (by kernel_rfl) (by kernel_rfl) (fun _ _ _ h=>h) (Or.inl ⟨by rfl,fun W hS=>by clear hS;go_simp;try with_reducible rfl⟩) hHeld ?_
 try simp only [Act.put,List.setIfInBounds_toArray,List.set_cons_zero,List.set_cons_succ]
 refine wpAnyH_done (by kernel_rfl) ?_ _
 refine NoPanic.normal ?_
 go_wp2_with fail
 refine bodyPost_ret (v:=.tuple #[.agg #[.slice Ao9 RES.1.ops.length co9,.slice Ap9 RES.1.bp.length cp9,.slice Am9 RES.1.bm.length cm9,.slice Aap9 RES.1.ap.length cap9,.slice Aam9 RES.1.am.length cam9],.int .i64 RES.2]) (results_row_tmp Tryz.results57 _ _ _ (w.heap.size + 1 + 1 + 1) 36 _ (0,0) _ rfl HX9.out.2.1 rfl Tryz.underlying36 (by kernel_rfl) _ rfl) rfl ?_
 exact RecB.put (arr:=#[]) HREC.out HGW.out HX9.out.1 HX9.out.2.2 (HWB.out.trans (HW.out.mono HWB.out.size)) (by omega)
def posW (rr:List Int) (ra:Int) (o:Option Int):List Int:=match o with
 | some s=>rr ++ [ra,s,0]
 | none=>rr ++ [ra + 1]
theorem wrap_cases (t:Tree) (p m:List Int) (item:Tree) (slot:Int):((validS t && formedS (wrapOp [] 0 0 [item] slot)) = false→cwrapS t p m item slot = (recZ,1)) ∧
  ((validS t && formedS (wrapOp [] 0 0 [item] slot)) = true→(ofS t p m).2≠0→cwrapS t p m item slot = (recZ,(ofS t p m).2)) ∧
  (∀ rr ra rb,(validS t && formedS (wrapOp [] 0 0 [item] slot)) = true→ofS t p m = ((rr,ra,rb),0)→cwrapS t p m item slot = doneR t p m [wrapOp rr ra (rb - ra) [item] slot] (posW rr ra (emptyS item.kids 0 slot (decide (rb - ra = 0)))) []):=by
 refine ⟨fun h=>?_,fun h h2=>?_,fun rr ra rb h h1=>?_⟩
 ·unfold cwrapS;rw [if_pos h]
 ·unfold cwrapS;rw [if_neg (by simp [h]),if_pos h2]
 ·unfold cwrapS
  rw [if_neg (by simp [h]),h1]
  simp only
  rw [if_neg (by simp)]
  rfl
theorem emptyS_drop {ks:List Tree} {k:Nat} (hk:k < ks.length) (slot:Int) (z:Bool):emptyS (ks.drop k) (k:Int) slot z = if ks[k].kids.length = 0∧((k:Int)≠slot∨z = true) then some (k:Int) else emptyS (ks.drop (k + 1)) ((k + 1:Nat):Int) slot z:=by
 rw [List.drop_eq_getElem_cons hk,emptyS]
 rfl
theorem emptyS_end {ks:List Tree} {k:Nat} (hk:ks.length≤k) (slot i:Int) (z:Bool):emptyS (ks.drop k) i slot z = none:=by
 rw [List.drop_of_length_le hk,emptyS]
theorem wrapF_valid {item:Tree} {slot:Int} (h:formedS (wrapOp [] 0 0 [item] slot) = true):validS (rowT [item]) = true∧0≤slot∧slot < item.kids.length:=by
 unfold formedS wrapOp at h
 rw [if_neg (by simp),if_pos (by simp)] at h
 simp only [Bool.and_eq_true] at h
 have ht:=h.2.1
 obtain ⟨t,h1,h2,h3,h4⟩:=template_one ht
 obtain rfl:item = t:=by simpa using h1
 unfold templateS at ht
 simp only [Bool.and_eq_true,decide_eq_true_eq] at ht
 exact ⟨ht.2.1,h2,h3⟩
theorem wrapF_count {item:Tree} (h:validS (rowT [item]) = true):countS item≤1000∧item.kids.length≤1000:=by
 have h1:=(valid_count h).1
 have h2:countS (rowT [item]) = 1 + (countS item + 0):=rfl
 have h3:=kids_le_count item
 omega
theorem of_facts {t:Tree} {p m rr:List Int} {ra rb:Int} (h:ofS t p m = ((rr,ra,rb),0)) (hpl:p.length≤90000) (hml:m.length≤90000):validS t = true∧rr.length≤90000∧0≤ra∧ra≤rb∧rb≤1000:=by
 obtain ⟨hv,hp,_,f1,f2,f3,f4⟩:=of_ok (t:=t) (p:=p) (m:=m) (by rw [h])
 rw [h] at f1 f2 f3 f4
 simp only at f1 f2 f3 f4
 have hcr:=find_count t rr
 have hlr:=kids_le_count (findS t rr).1
 have hvc:=(valid_count hv).1
 refine ⟨hv,?_,f2,f3,by omega⟩
 have h2:=h
 unfold ofS at h2
 split at h2 <;> unfold betV at h2 <;> split at h2
 ·simp at h2
 ·split at h2
  ·simp at h2
  ·have:=congrArg (fun x=>x.1.1.length) h2
   simp [btS] at this
   omega
 ·simp at h2
 ·split at h2
  ·simp at h2
  ·have:=congrArg (fun x=>x.1.1.length) h2
   simp [btS] at this
   omega
theorem few14_bd {t:Tree} {p m:List Int} {items:List Tree} {x:ByteArray} (h:few14S t p m items x = true):countS t≤300∧p.length≤60∧m.length≤60∧countsS items≤100∧x.size≤300:=by
 unfold few14S at h
 simp only [Bool.and_eq_true,decide_eq_true_eq] at h
 have h1:=few_count h.1
 have h2:=few_count h.2.2.2.1
 have h3:countS (rowT items) = 1 + countsS items:=rfl
 exact ⟨by omega,by omega,by omega,by omega,by omega⟩
end Go.Proofs.YtbjcioknfjofkaaGreat
