/- Texts put together. -/
import Derived.Test.YtbjcioknfjofkaaGreatQ075cf82eb7
import Derived.Test.YtbjcioknfjofkaaGreatQ5a422e823d
import Derived.Test.YtbjcioknfjofkaaGreatQf027d70dc5
import Derived.Test.YtbjcioknfjofkaaGreatQ1301ed6cff
import Derived.Test.YtbjcioknfjofkaaGreatQb423201e5f
import Derived.Test.YtbjcioknfjofkaaGreatQb4f87ba2e9
import Derived.Deep.CutBlock
import Derived.Deep.DeepCutAuto
set_option linter.unusedVariables false
set_option linter.unusedSimpArgs false
set_option maxRecDepth 100000
namespace Go.Proofs.YtbjcioknfjofkaaGreat
open Go.RowKit
set_option maxHeartbeats 4000000 in
theorem zPv (t:Tree) (p:List Int) (i:Int) (A Ap:Option Addr) (cap cp:Nat) (w:World) (S:Nat→Prop) (hS:∀ k,S k→k < w.heap.size) (hv:zAa zAb w S t.kids (.slice A t.kids.length cap)) (htx:t.text.size≤maxLen) (hct:zAe t≤900000) (hp:zAh w (Lt w.heap.size) p (.slice Ap p.length cp)) :
  Calls Tryz.prog 146 #[.agg #[.int .i64 t.kind,.string t.text,.int .i64 t.cols,.slice A t.kids.length cap],.slice Ap p.length cp,.int .i64 i] w (RowP S w (zA3 t p i).1.kind (zA3 t p i).1.text (zA3 t p i).1.cols (zA3 t p i).1.kids (zA3 t p i).2):=by
 obtain ⟨W0,hW0⟩:∃ W0,(w.alloc (.cells #[.int .i64 t.kind,.string t.text,.int .i64 t.cols,.slice A t.kids.length cap] 24)).alloc (.cells #[.int .i64 0,.string ⟨#[]⟩,.int .i64 0,.slice none 0 0] 24) = W0:=⟨_,rfl⟩
 have hb0:Below w.heap.size w W0:=by rw [← hW0];exact zAp (blA _ _) _
 have ho1:zAc W0 w.heap.size (.cells #[.int .i64 t.kind,.string t.text,.int .i64 t.cols,.slice A t.kids.length cap] 24):=by rw [← hW0];exact (zAc.at0 _ _).al _
 have HO2:Hid (zAc W0 (w.heap.size + 1) (.cells #[.int .i64 0,.string ⟨#[]⟩,.int .i64 0,.slice none 0 0] 24)):=by show zAc _ _ _;rw [← hW0];exact zAc.at1 _ _ _
 have C:=hid (zF0 t p A Ap cap cp W0 S (fun k hk=>Nat.lt_of_lt_of_le (hS k hk) hb0.size) (hv.keep (fun q hq=>hb0.cell (hS _ hq)) (fun _ h=>h)) htx hct (hp.below hb0 hb0.size))
 have HR:Hid (zA3 t p i = if (zAg t p).2≠0 then (zAx,(zAg t p).2) else if i < 0∨((zAg t p).1.kids.length:Int)≤i then (zAx,2) else (zD8 (zAg t p).1.kids i.toNat,0)):=rfl
 have HB0:=hid hb0
 have HSS:=hid hS
 have m0:=ho1.cell 0
 have m1:=ho1.cell 1
 have m2:=ho1.cell 2
 have m3:=ho1.cell 3
 simp only [List.getElem?_toArray,List.getElem?_cons_zero,List.getElem?_cons_succ] at m0 m1 m2 m3
 obtain ⟨⟨rx,re⟩,hrr⟩:∃ r,zAg t p = r:=⟨_,rfl⟩
 rw [hrr] at C HR
 obtain ⟨rk,rt,rc,rs⟩:=rx
 simp only [Tree.kind,Tree.text,Tree.cols,Tree.kids] at C HR
 generalize zA3 t p i = RES at *
 clear hS hv htx hct hp hb0 ho1 hrr
 go_enter Tryz.func146,Tryz.ntmps146
 go_wp2_with fail
 refine C.out.mono ?_
 rintro e w1 ⟨v1,rfl,hr1,hb1⟩
 obtain ⟨A1,c1,rfl⟩:=hr1.form
 have HB1:=hid (HB0.out.trans (hb1.mono HB0.out.size))
 have HO1:=hid (HO2.out.below hb1)
 clear m0 m1 m2 m3 hb1 hW0 C HO2
 go_upto_region 2 with (first
  | (refine wpList_store_row rfl 24 (.tmp 8) (.tmp 14) rfl w1.heap.size _ rfl rfl 24 _ (zAc.at0 _ _) (by kernel_rfl) (by simp) (by simp [Value.oneCell']) ?_)
  | fail)
 generalize hX:World.setRow _ _ _ = X
 have hbx:Below w1.heap.size w1 X:=by rw [← hX];exact zAk (blA w1 _) (Nat.le_refl _) _
 have hso:zAc X w1.heap.size (.cells #[.int .i64 rk,.string rt,.int .i64 rc,.slice A1 rs.length c1] 24):=by rw [← hX];exact (zAc.at0 w1 _).row _
 have HG:Hid (zAc X (w.heap.size + 1) (.cells #[.int .i64 0,.string ⟨#[]⟩,.int .i64 0,.slice none 0 0] 24)):=hid (HO1.out.below hbx)
 have HBX:=hid (HB1.out.trans (hbx.mono HB1.out.size))
 have hrx:zAa zAb X S rs (.slice A1 rs.length c1):=hr1.keep (fun q hq=>hbx.cell (Nat.lt_of_lt_of_le (HSS.out _ hq) HB1.out.size)) (fun _ h=>h)
 have s3:X.cell? ⟨w1.heap.size,3,none⟩ = some (.slice A1 rs.length c1):=hso.cell 3
 clear hX hbx hso hr1 HO1 HB0 HB1
 by_cases h0:re = 0
 rotate_left
 ·have hse:(re != 0) = true:=by simp [h0]
  have HE:=hid (HR.out.trans (if_pos h0))
  clear h0 HR hrx s3
  go_wp2_with (first
   | (refine wpList_store_row rfl 24 (.tmp 6) (.tmp 18) rfl (w.heap.size + 1) _ rfl rfl 24 _ HG.out (by kernel_rfl) (by simp) (by simp [Value.oneCell']) ?_)
   | fail)
  refine bodyPost_ret (v:=.tuple #[.agg #[.int .i64 0,.string ⟨#[]⟩,.int .i64 0,.slice none 0 0],.int .i64 re]) (zAj Tryz.results146 _ _ _ (w.heap.size + 1) 24 _ (0,0) _ rfl (HG.out.row _) rfl Tryz.underlying24 (by kernel_rfl) _ rfl) rfl ?_
  rw [HE.out]
  exact ⟨_,rfl,zAa.nil_ 0 (Nat.zero_le _) none,zAk HBX.out (Nat.le_succ _) _⟩
 subst h0
 have hse:((0:Int) != 0) = false:=rfl
 have hr2:=HR.out.trans (if_neg (by simp))
 obtain ⟨_,_,rsx,hq,hlc,hmx,hrd,hls⟩:=hrx
 cases hq
 unfold maxLen at hmx
 by_cases h1:i < 0
 ·have i1:decide (i < 0) = true:=decide_eq_true h1
  have HE:=hid (hr2.trans (if_pos (.inl h1)))
  clear h1 HR hr2 hrd hls
  go_wp2_with (first
   | (refine wpList_store_row rfl 24 (.tmp 6) (.tmp 29) rfl (w.heap.size + 1) _ rfl rfl 24 _ HG.out (by kernel_rfl) (by simp) (by simp [Value.oneCell']) ?_)
   | fail)
  refine bodyPost_ret (v:=.tuple #[.agg #[.int .i64 0,.string ⟨#[]⟩,.int .i64 0,.slice none 0 0],.int .i64 2]) (zAj Tryz.results146 _ _ _ (w.heap.size + 1) 24 _ (0,0) _ rfl (HG.out.row _) rfl Tryz.underlying24 (by kernel_rfl) _ rfl) rfl ?_
  rw [HE.out]
  exact ⟨_,rfl,zAa.nil_ 0 (Nat.zero_le _) none,zAk HBX.out (Nat.le_succ _) _⟩
 have i1:decide (i < 0) = false:=decide_eq_false h1
 by_cases h2:(rs.length:Int)≤i
 ·have i2:decide ((rs.length:Int)≤i) = true:=decide_eq_true h2
  have HE:=hid (hr2.trans (if_pos (.inr h2)))
  clear h1 h2 HR hr2 hrd hls
  go_wp2_with (first
   | (refine wpList_store_row rfl 24 (.tmp 6) (.tmp 29) rfl (w.heap.size + 1) _ rfl rfl 24 _ HG.out (by kernel_rfl) (by simp) (by simp [Value.oneCell']) ?_)
   | fail)
  refine bodyPost_ret (v:=.tuple #[.agg #[.int .i64 0,.string ⟨#[]⟩,.int .i64 0,.slice none 0 0],.int .i64 2]) (zAj Tryz.results146 _ _ _ (w.heap.size + 1) 24 _ (0,0) _ rfl (HG.out.row _) rfl Tryz.underlying24 (by kernel_rfl) _ rfl) rfl ?_
  rw [HE.out]
  exact ⟨_,rfl,zAa.nil_ 0 (Nat.zero_le _) none,zAk HBX.out (Nat.le_succ _) _⟩
 have i2:decide ((rs.length:Int)≤i) = false:=decide_eq_false h2
 have HE:=hid (hr2.trans (if_neg (by omega)))
 obtain ⟨k,rfl⟩:∃ k:Nat,i = (k:Int):=⟨i.toNat,by omega⟩
 have hk:k < rs.length:=by omega
 have hie:zD8 rs (k:Int).toNat = rs[k]:=by simp [zD8,hk]
 rw [hie] at HE
 obtain ⟨gx,ox,Bx,bx,rs2,rfl,hgx,x0,x1,x2,x3,_,_,_,hx5,hx6,hrx,hlx⟩:=zAy hrd hls hk
 have HX:Hid (zAa zAb X S rs[k].kids (.slice Bx rs[k].kids.length bx)):=⟨_,_,rs2,rfl,hx5,hx6,hrx,hlx⟩
 have j0:(0:Int)≤(k:Int):=by omega
 have j1:(k:Int) < (rs.length:Int):=by omega
 clear h1 h2 HR hr2 hrd hls hx5 hx6 hrx hlx hie
 generalize rs[k] = x at *
 go_wp2_with (first
  | (refine wpList_store_row rfl 24 (.tmp 6) (.tmp 34) rfl (w.heap.size + 1) _ rfl rfl 24 _ HG.out (by kernel_rfl) (by simp) (by simp [Value.oneCell']) ?_)
  | fail)
 refine bodyPost_ret (v:=.tuple #[.agg #[.int .i64 x.kind,.string x.text,.int .i64 x.cols,.slice Bx x.kids.length bx],.int .i64 0]) (zAj Tryz.results146 _ _ _ (w.heap.size + 1) 24 _ (0,0) _ rfl (HG.out.row _) rfl Tryz.underlying24 (by kernel_rfl) _ rfl) rfl ?_
 rw [HE.out]
 exact ⟨_,rfl,HX.out.keep (fun q hq=>World.cell?_of_block (setRow_other _ _ _ _ (by have:=HSS.out _ hq;omega))) (fun _ h=>h),zAk HBX.out (Nat.le_succ _) _⟩
set_option maxHeartbeats 4000000 in
theorem zMn (t:Tree) (p m pos:List Int) (ops:List OpD) (A Ap Am Ao Aq:Option Addr) (cap cp cm co cq:Nat) (w:World) (hv:zAa zAb w (Lt w.heap.size) t.kids (.slice A t.kids.length cap)) (hok:zAu t) (hct:zAe t≤900000) (hp:zAh w (Lt w.heap.size) p (.slice Ap p.length cp)) (hm:zAh w (Lt w.heap.size) m (.slice Am m.length cm)) (hq:zAh w (Lt w.heap.size) pos (.slice Aq pos.length cq)) (ho:zAa opE w (Lt w.heap.size) ops (.slice Ao ops.length co)) (hol:ops.length≤1000) (hcn:∀ k (hk:k < ops.length),zAd ops[k].nodes≤100000) :
  Calls Tryz.prog 138 #[.agg #[.int .i64 t.kind,.string t.text,.int .i64 t.cols,.slice A t.kids.length cap],.agg #[.slice Ap p.length cp,.slice Am m.length cm],.slice Ao ops.length co,.slice Aq pos.length cq] w (RecB w (zD9 t p m ops pos [])):=by
 obtain ⟨W0,hW0⟩:∃ W0,((w.alloc (.cells #[.int .i64 t.kind,.string t.text,.int .i64 t.cols,.slice A t.kids.length cap] 24)).alloc (.cells #[.slice Ap p.length cp,.slice Am m.length cm] 33)).alloc (.cells #[.slice none 0 0,.slice none 0 0,.slice none 0 0,.slice none 0 0,.slice none 0 0] 36) = W0:=⟨_,rfl⟩
 have hb0:Below w.heap.size w W0:=by rw [← hW0];exact zAp (zAp (blA _ _) _) _
 have ho1:zAc W0 w.heap.size (.cells #[.int .i64 t.kind,.string t.text,.int .i64 t.cols,.slice A t.kids.length cap] 24):=by rw [← hW0];exact ((zAc.at0 _ _).al _).al _
 have HO2:Hid (zAc W0 (w.heap.size + 1) (.cells #[.slice Ap p.length cp,.slice Am m.length cm] 33)):=by show zAc _ _ _;rw [← hW0];exact (zAc.at1 _ _ _).al _
 have HO3:Hid (zAc W0 (w.heap.size + 1 + 1) (.cells #[.slice none 0 0,.slice none 0 0,.slice none 0 0,.slice none 0 0,.slice none 0 0] 36)):=by show zAc _ _ _;rw [← hW0];exact zAc.at2 _ _ _ _
 have C:=hid (zMf t ops A Ao cap co W0 (hv.below hb0 hb0.size) hok hct (ho.below hb0 hb0.size) hol hcn)
 have HRD:=hid (And.intro ho (And.intro hp (And.intro hm hq)))
 have HR:Hid (zD9 t p m ops pos [] = if (zBn t ops).2 = 0 then (⟨ops,p,m,pos,[]⟩,0) else (recZ,6)):=rfl
 have HB0:=hid hb0
 have m0:=ho1.cell 0
 have m1:=ho1.cell 1
 have m2:=ho1.cell 2
 have m3:=ho1.cell 3
 simp only [List.getElem?_toArray,List.getElem?_cons_zero,List.getElem?_cons_succ] at m0 m1 m2 m3
 generalize zBn t ops = AR at *
 obtain ⟨⟨rk,rt,rc,rs⟩,re⟩:=AR
 generalize zD9 t p m ops pos [] = RES at *
 clear hv hok hct hp hm hq ho hol hcn hb0 ho1
 go_enter Tryz.func138,Tryz.ntmps138
 go_wp2_with fail
 refine C.out.mono ?_
 rintro e w1 ⟨v1,i1,rfl,hr1,hb1⟩
 obtain ⟨A1,c1,rfl⟩:=hr1.form
 simp only [Tree.kind,Tree.text,Tree.cols,Tree.kids] at *
 have HB1:=hid (HB0.out.trans (hb1.mono HB0.out.size))
 have HC1:=hid (HO2.out.below hb1)
 have HO1:=hid (HO3.out.below hb1)
 clear m0 m1 m2 m3 hb1 hW0 C HO2 HO3 hr1
 go_upto_region 2 with (first
  | (refine wpList_store_row rfl 24 (.tmp 10) (.tmp 17) rfl w1.heap.size _ rfl rfl 24 _ (zAc.at0 _ _) (by kernel_rfl) (by simp) (by simp [Value.oneCell']) ?_)
  | fail)
 generalize hX:World.setRow _ _ _ = X
 have hbx:Below w1.heap.size w1 X:=by rw [← hX];exact zAk (blA w1 _) (Nat.le_refl _) _
 have HG:Hid (zAc X (w.heap.size + 1 + 1) (.cells #[.slice none 0 0,.slice none 0 0,.slice none 0 0,.slice none 0 0,.slice none 0 0] 36)):=hid (HO1.out.below hbx)
 have hcx:=HC1.out.below hbx
 have n0:X.cell? ⟨w.heap.size + 1,0,none⟩ = some (.slice Ap p.length cp):=hcx.cell 0
 have n1:X.cell? ⟨w.heap.size + 1,1,none⟩ = some (.slice Am m.length cm):=hcx.cell 1
 have HBX:=hid (HB1.out.trans (hbx.mono HB1.out.size))
 clear hX hbx hcx HC1 HO1 HB0 HB1
 by_cases h0:re = 0
 ·subst h0
  have HE:=hid (HR.out.trans (if_pos rfl))
  clear HR
  go_wp2_with (first
   | (refine wpList_store_row rfl 36 (.tmp 8) (.tmp 27) rfl (w.heap.size + 1 + 1) _ rfl rfl 36 _ HG.out (by kernel_rfl) (by simp) (by simp [Value.oneCell']) ?_)
   | fail)
  refine bodyPost_ret (v:=.tuple #[.agg #[.slice Ao ops.length co,.slice Ap p.length cp,.slice Am m.length cm,.slice Aq pos.length cq,.slice none 0 0],.int .i64 0]) (zAj Tryz.results138 _ _ _ (w.heap.size + 1 + 1) 36 _ (0,0) _ rfl (HG.out.row _) rfl Tryz.underlying36 (by kernel_rfl) _ rfl) rfl ?_
  rw [HE.out]
  have kp:∀ {α:Type} {E:Enc α} {xs:List α} {v:Value},zAa E w (Lt w.heap.size) xs v→zAa E (X.setRow (w.heap.size + 1 + 1) #[.slice Ao ops.length co,.slice Ap p.length cp,.slice Am m.length cm,.slice Aq pos.length cq,.slice none 0 0]) (Lt (X.setRow (w.heap.size + 1 + 1) #[.slice Ao ops.length co,.slice Ap p.length cp,.slice Am m.length cm,.slice Aq pos.length cq,.slice none 0 0]).heap.size) xs v:=fun h=>h.keep (fun q hq=>(World.cell?_of_block (setRow_other _ _ _ _ (by have:q.block < w.heap.size:=hq;omega))).trans (HBX.out.cell hq)) (fun k hk=>by unfold Lt;rw [size_setRow];exact Nat.lt_of_lt_of_le hk HBX.out.size)
  exact ⟨Ao,co,Ap,cp,Am,cm,Aq,cq,none,0,rfl,kp HRD.out.1,kp HRD.out.2.1,kp HRD.out.2.2.1,kp HRD.out.2.2.2,zAa.nil_ 0 (Nat.zero_le _) none,zAk HBX.out (by omega) _⟩
 ·have hse:(re != 0) = true:=by simp [h0]
  have HE:=hid (HR.out.trans (if_neg h0))
  clear h0 HR n0 n1
  go_wp2_with (first
   | (refine wpList_store_row rfl 36 (.tmp 8) (.tmp 22) rfl (w.heap.size + 1 + 1) _ rfl rfl 36 _ HG.out (by kernel_rfl) (by simp) (by simp [Value.oneCell']) ?_)
   | fail)
  refine bodyPost_ret (v:=.tuple #[.agg #[.slice none 0 0,.slice none 0 0,.slice none 0 0,.slice none 0 0,.slice none 0 0],.int .i64 6]) (zAj Tryz.results138 _ _ _ (w.heap.size + 1 + 1) 36 _ (0,0) _ rfl (HG.out.row _) rfl Tryz.underlying36 (by kernel_rfl) _ rfl) rfl ?_
  rw [HE.out]
  exact zJ8 6 (zAk HBX.out (by omega) _)
def AroV (w:World) (x:Option AroD) (e:Ending) (w':World):Prop:=Below w.heap.size w w' ∧
 ((x = none∧e = .returned (.tuple #[.agg #[.slice none 0 0,.int .i64 0,.int .i64 0,.int .i64 0,.string ⟨#[]⟩,.int .i64 0,.slice none 0 0],.bool false]))∨∃ d Ar cr Ai ci,x = some d∧e = .returned (.tuple #[.agg #[.slice Ar d.row.length cr,.int .i64 d.at_,.int .i64 d.own,.int .i64 d.item.kind,.string d.item.text,.int .i64 d.item.cols,.slice Ai d.item.kids.length ci],.bool true])∧zAh w' (Lt w.heap.size) d.row (.slice Ar d.row.length cr)∧zAa zAb w' (Lt w.heap.size) d.item.kids (.slice Ai d.item.kids.length ci))
set_option maxHeartbeats 4000000 in
theorem zKb (t:Tree) (p:List Int) (A Ap:Option Addr) (cap cp:Nat) (w:World) (hv:zAa zAb w (Lt w.heap.size) t.kids (.slice A t.kids.length cap)) (htx:t.text.size≤maxLen) (hct:zAe t≤900000) (hp:zAh w (Lt w.heap.size) p (.slice Ap p.length cp)) (hpl:p.length≤90000) :
  Calls Tryz.prog 142 #[.agg #[.int .i64 t.kind,.string t.text,.int .i64 t.cols,.slice A t.kids.length cap],.slice Ap p.length cp] w (AroV w (aroS t p)):=by
 obtain ⟨W0,hW0⟩:∃ W0,(w.alloc (.cells #[.int .i64 t.kind,.string t.text,.int .i64 t.cols,.slice A t.kids.length cap] 24)).alloc (.cells #[.slice none 0 0,.int .i64 0,.int .i64 0,.int .i64 0,.string ⟨#[]⟩,.int .i64 0,.slice none 0 0] 158) = W0:=⟨_,rfl⟩
 have hb0:Below w.heap.size w W0:=by rw [← hW0];exact zAp (blA _ _) _
 have HO1:Hid (zAc W0 w.heap.size (.cells #[.int .i64 t.kind,.string t.text,.int .i64 t.cols,.slice A t.kids.length cap] 24)):=by show zAc _ _ _;rw [← hW0];exact (zAc.at0 _ _).al _
 have HO2:Hid (zAc W0 (w.heap.size + 1) (.cells #[.slice none 0 0,.int .i64 0,.int .i64 0,.int .i64 0,.string ⟨#[]⟩,.int .i64 0,.slice none 0 0] 158)):=by show zAc _ _ _;rw [← hW0];exact zAc.at1 _ _ _
 have HB0:=hid hb0
 rcases Nat.lt_or_ge p.length 3 with h3 | h3
 ·have HR:Hid (aroS t p = none):=by show _ = _;unfold aroS;rw [if_pos h3]
  have i3:decide ((p.length:Int) < 3) = true:=decide_eq_true (by omega)
  generalize aroS t p = RES at *
  clear hv htx hct hp hpl h3 hb0
  go_enter Tryz.func142,Tryz.ntmps142
  go_wp2_with (first
   | (refine wpList_store_row rfl 158 (.tmp 4) (.tmp 13) rfl (w.heap.size + 1) _ rfl rfl 158 _ HO2.out (by kernel_rfl) (by simp) (by simp [Value.oneCell']) ?_)
   | fail)
  refine bodyPost_ret (v:=.tuple #[.agg #[.slice none 0 0,.int .i64 0,.int .i64 0,.int .i64 0,.string ⟨#[]⟩,.int .i64 0,.slice none 0 0],.bool false]) (zAj Tryz.results142 _ _ _ (w.heap.size + 1) 158 _ (0,0) _ rfl (HO2.out.row _) rfl Tryz.underlying158 (by kernel_rfl) _ rfl) rfl ?_
  exact ⟨zAk HB0.out (Nat.le_succ _) _,.inl ⟨HR.out,rfl⟩⟩
 ·obtain ⟨n,hn⟩:∃ n,p.length = n + 3:=⟨p.length - 3,by omega⟩
  obtain ⟨gp,op,rfl,hgp,hcp⟩:=zGp hp (by omega)
  have hgp:gp < w.heap.size:=hgp
  have hcc:p.length≤cp:=by obtain ⟨_,_,_,hq,h1,_⟩:=hp;cases hq;exact h1
  obtain ⟨A1,hs1,hc1⟩:=zL3 intE Tryz.underlying31 zCm (some ⟨gp,op,none⟩) p.length cp (n:Int) n rfl (by omega) hcc
  obtain ⟨n1,hn1⟩:∃ n1,n1 = n + 1:=⟨_,rfl⟩
  have hln:(p.take n).length = n:=by simp;omega
  obtain ⟨pn,hpn⟩:∃ pn,pn = p[n]'(by omega):=⟨_,rfl⟩
  obtain ⟨pm,hpm⟩:∃ pm,pm = p[n1]'(by omega):=⟨_,rfl⟩
  have KP:Hid (∀ W,Below W0.heap.size W0 W→W.cell? ⟨gp,op + n,none⟩ = some (.int .i64 pn)):=fun W hW=>(((hb0.trans (hW.mono hb0.size)).cell (p:=⟨gp,_,none⟩) hgp).trans (hcp n (by omega))).trans (by rw [hpn])
  have KQ:Hid (∀ W,Below W0.heap.size W0 W→W.cell? ⟨gp,op + n1,none⟩ = some (.int .i64 pm)):=fun W hW=>(((hb0.trans (hW.mono hb0.size)).cell (p:=⟨gp,_,none⟩) hgp).trans (hcp n1 (by omega))).trans (by rw [hpm])
  have HQ:Hid (∀ W,Below w.heap.size w W→zAh W (Lt w.heap.size) (p.take n) (.slice A1 n cp)):=fun W hW=>hc1 W (Lt w.heap.size) p (hp.keep (fun q hq=>hW.cell hq) (fun _ h=>h))
  obtain ⟨IR,hIR⟩:∃ IR,zA3 t (p.take n) pn = IR:=⟨_,rfl⟩
  have CI:Hid (∀ W,Below W0.heap.size W0 W→Calls Tryz.prog 146 #[.agg #[.int .i64 t.kind,.string t.text,.int .i64 t.cols,.slice A t.kids.length cap],.slice A1 n cp,.int .i64 pn] W (RowP (Lt w.heap.size) W IR.1.kind IR.1.text IR.1.cols IR.1.kids IR.2)):=fun W hW=>by
   have hw:=hb0.trans (hW.mono hb0.size)
   have h9:=zPv t (p.take n) pn A A1 cap cp W (Lt w.heap.size) (fun k hk=>Nat.lt_of_lt_of_le hk hw.size) (hv.keep (fun q hq=>hw.cell hq) (fun _ h=>h)) htx hct (by rw [hln];exact (HQ.out W hw).keep (fun _ _=>rfl) (fun k hk=>Nat.lt_of_lt_of_le hk hw.size))
   rwa [hln,hIR] at h9
  have HR:Hid (aroS t p = some ⟨p.take n,pn,pm,IR.1⟩):=by
   show _ = _
   unfold aroS
   rw [if_neg (by omega),show p.length - 3 = n by omega,show p.length - 2 = n1 by omega]
   have e1:p.getD n 0 = pn:=by rw [List.getD_eq_getElem?_getD,List.getElem?_eq_getElem (by omega),hpn];rfl
   have e2:p.getD n1 0 = pm:=by rw [List.getD_eq_getElem?_getD,List.getElem?_eq_getElem (by omega),hpm];rfl
   rw [e1,e2,hIR]
  have v3:IntKind.i64.wrap ((p.length:Int) - 3) = (n:Int):=by rw [show (p.length:Int) - 3 = (n:Int) by omega];exact IntWalk.i64_in _ (by omega)
  have v2:IntKind.i64.wrap ((p.length:Int) - 2) = (n1:Int):=by rw [show (p.length:Int) - 2 = (n1:Int) by omega];exact IntWalk.i64_in _ (by omega)
  have i3:decide ((p.length:Int) < 3) = false:=decide_eq_false (by omega)
  have j0:(0:Int)≤(n:Int):=by omega
  have j1:(n:Int) < (p.length:Int):=by omega
  have j2:(0:Int)≤(n1:Int):=by omega
  have j3:(n1:Int) < (p.length:Int):=by omega
  have HGP0:=hid hgp
  have HLN:=hid hln
  have HIN:=hid (And.intro hn hn1)
  obtain ⟨⟨xk,xt,xc,xs⟩,ex⟩:=IR
  simp only [Tree.kind,Tree.text,Tree.cols,Tree.kids] at CI
  generalize aroS t p = RES at *
  have HW:Hid (Below W0.heap.size W0 W0):=hid (Below.refl _ _)
  clear hv htx hct hp hpl h3 hb0 hgp hcc hc1 hcp hpn hpm hIR hn hln
  clear hn1
  go_enter Tryz.func142,Tryz.ntmps142
  go_upto_region 4 with fail
  clear hW0
  refine wp_region_noPanic ?_
  refine wp_region_held_drew (S:=fun w'=>Below W0.heap.size W0 w') (by kernel_rfl) (bwt HW.out) (fun hHeld=>?_)
  refine wpAnyH_take (i:=0) (oi:=⟨some 15,_,_,_,_,_⟩) (v:=_) rfl (by kernel_rfl) (by kernel_rfl) (by kernel_rfl) (fun _ _ _ h=>h) (zB6 24 (.tmp 2) rfl (by rfl) _ rfl (fun w hS=>HO1.out.below hS) Tryz.underlying24 (by kernel_rfl)) hHeld ?_
  try simp only [Act.put,List.setIfInBounds_toArray,List.set_cons_zero,List.set_cons_succ]
  refine wpAnyH_take (i:=1) (oi:=⟨some 16,_,_,_,_,_⟩) (v:=_) rfl (by kernel_rfl) (by kernel_rfl) (by kernel_rfl) (fun _ _ _ h=>h) (Or.inl ⟨by rfl,fun W hS=>by clear hS;go_simp;try with_reducible rfl⟩) hHeld ?_
  try simp only [Act.put,List.setIfInBounds_toArray,List.set_cons_zero,List.set_cons_succ]
  refine wpAnyH_take (i:=2) (oi:=⟨some 17,_,_,_,_,_⟩) (v:=_) rfl (by kernel_rfl) (by kernel_rfl) (by kernel_rfl) (fun _ _ _ h=>h) (Or.inl ⟨by rfl,fun W hS=>by clear hS;go_simp;try with_reducible rfl⟩) hHeld ?_
  try simp only [Act.put,List.setIfInBounds_toArray,List.set_cons_zero,List.set_cons_succ]
  refine wpAnyH_take (i:=3) (oi:=⟨some 18,_,_,_,_,_⟩) (v:=_) rfl (by kernel_rfl) (by kernel_rfl) (by kernel_rfl) (fun _ _ _ h=>h) (Or.inl ⟨by rfl,fun W hS=>by clear hS;go_simp;try with_reducible rfl⟩) hHeld ?_
  try simp only [Act.put,List.setIfInBounds_toArray,List.set_cons_zero,List.set_cons_succ]
  refine wpAnyH_take (i:=4) (oi:=⟨some 19,_,_,_,_,_⟩) (v:=_) rfl (by kernel_rfl) (by kernel_rfl) (by kernel_rfl) (fun _ _ _ h=>h) (Or.inl ⟨by rfl,fun W hS=>by clear hS;go_simp;try with_reducible rfl⟩) hHeld ?_
  try simp only [Act.put,List.setIfInBounds_toArray,List.set_cons_zero,List.set_cons_succ]
  refine wpAnyH_take (i:=5) (oi:=⟨some 20,_,_,_,_,_⟩) (v:=_) rfl (by kernel_rfl) (by kernel_rfl) (by kernel_rfl) (fun _ _ _ h=>h) (Or.inl ⟨by rfl,fun W hS=>by clear hS;go_simp;try with_reducible rfl⟩) hHeld ?_
  try simp only [Act.put,List.setIfInBounds_toArray,List.set_cons_zero,List.set_cons_succ]
  refine wpAnyH_take (i:=6) (oi:=⟨some 21,_,_,_,_,_⟩) (v:=_) rfl (by kernel_rfl) (by kernel_rfl) (by kernel_rfl) (fun _ _ _ h=>h) (Or.inl ⟨by rfl,fun W hS=>by clear hS;go_simp;try with_reducible rfl⟩) hHeld ?_
  try simp only [Act.put,List.setIfInBounds_toArray,List.set_cons_zero,List.set_cons_succ]
  refine wpAnyH_take (i:=7) (oi:=⟨some 22,_,_,_,_,_⟩) (v:=_) rfl (by kernel_rfl) (by kernel_rfl) (by kernel_rfl) (fun _ _ _ h=>h) (Or.inl ⟨by rfl,fun W hS=>by clear hS;go_simp;try with_reducible rfl⟩) hHeld ?_
  try simp only [Act.put,List.setIfInBounds_toArray,List.set_cons_zero,List.set_cons_succ]
  refine wpAnyH_take (i:=8) (oi:=⟨some 23,_,_,_,_,_⟩) (v:=_) rfl (by kernel_rfl) (by kernel_rfl) (by kernel_rfl) (fun _ _ _ h=>h) (Or.inl ⟨by rfl,fun W hS=>by clear hS;go_simp;try with_reducible rfl⟩) hHeld ?_
  try simp only [Act.put,List.setIfInBounds_toArray,List.set_cons_zero,List.set_cons_succ]
  refine wpAnyH_take (i:=9) (oi:=⟨some 24,_,_,_,_,_⟩) (v:=_) rfl (by kernel_rfl) (by kernel_rfl) (by kernel_rfl) (fun _ _ _ h=>h) (Or.inl ⟨by rfl,fun W hS=>by have h:=KP.out W hS;clear hS;go_simp;try with_reducible rfl⟩) hHeld ?_
  try simp only [Act.put,List.setIfInBounds_toArray,List.set_cons_zero,List.set_cons_succ]
  refine wpAnyH_ready (rs:=[10,14]) (by kernel_rfl) (by simp) ?_
  refine (AllReadyH.cons (o:=⟨some 25,_,_,_,_,_⟩) rfl (fun K hK=>?_) (AllReadyH.cons (o:=⟨some 7,_,_,_,_,_⟩) rfl (fun K hK=>?_) AllReadyH.nil))
  go_simp
  refine Calls.mono (CI.out _ (bwt HW.out)) ?_
  rintro e w1 ⟨v1,rfl,hr1,hb1⟩
  obtain ⟨Ai,ci,rfl⟩:=hr1.form
  have HRI:=hid hr1
  try have HN:=hid (HN.out.below hb1)
  have HW:=hid ((bwt HW.out).trans (hb1.mono (bwt HW.out).size))
  clear hr1 hb1
  refine hK.out _ _ (HW.out) (fun hHeld=>?_)
  clear hK K
  try simp only [Act.put,List.setIfInBounds_toArray,List.set_cons_zero,List.set_cons_succ]
  refine wpAnyH_take (i:=11) (oi:=⟨some 14,_,_,_,_,_⟩) (v:=_) rfl (by kernel_rfl) (by kernel_rfl) (by kernel_rfl) (fun _ _ _ h=>h) (Or.inl ⟨by rfl,fun W hS=>by clear hS;go_simp;try with_reducible rfl⟩) hHeld ?_
  try simp only [Act.put,List.setIfInBounds_toArray,List.set_cons_zero,List.set_cons_succ]
  refine wpAnyH_take (i:=12) (oi:=⟨some 26,_,_,_,_,_⟩) (v:=_) rfl (by kernel_rfl) (by kernel_rfl) (by kernel_rfl) (fun _ _ _ h=>h) (Or.inl ⟨by rfl,fun W hS=>by clear hS;go_simp;try with_reducible rfl⟩) hHeld ?_
  try simp only [Act.put,List.setIfInBounds_toArray,List.set_cons_zero,List.set_cons_succ]
  refine wpAnyH_take (i:=13) (oi:=⟨some 27,_,_,_,_,_⟩) (v:=_) rfl (by kernel_rfl) (by kernel_rfl) (by kernel_rfl) (fun _ _ _ h=>h) (Or.inl ⟨by rfl,fun W hS=>by clear hS;go_simp;try with_reducible rfl⟩) hHeld ?_
  try simp only [Act.put,List.setIfInBounds_toArray,List.set_cons_zero,List.set_cons_succ]
  refine wpAnyH_ready (rs:=[14]) (by kernel_rfl) (by simp) ?_
  refine (AllReadyH.cons (o:=⟨some 7,_,_,_,_,_⟩) rfl (fun K hK=>?_) AllReadyH.nil)
  go_simp
  first | have HN:=hid (zAc.at0 w1 (.cells #[.int .i64 0,.string ⟨#[]⟩,.int .i64 0,.slice none 0 0] 24)) | have HN:=hid ((zAc.at0 W0 (.cells #[.int .i64 0,.string ⟨#[]⟩,.int .i64 0,.slice none 0 0] 24)).dr)
  refine hK.out _ _ (bwt HW.out) (fun hHeld=>?_)
  clear hK K
  try simp only [Act.put,List.setIfInBounds_toArray,List.set_cons_zero,List.set_cons_succ]
  refine wpAnyH_ready (rs:=[15]) (by kernel_rfl) (by simp) ?_
  refine (AllReadyH.cons (o:=⟨none,_,_,_,_,_⟩) rfl (fun K hK=>?_) AllReadyH.nil)
  rw [if_pos (by rfl)]
  refine wp_store_row 24 (.tmp 7) (.tmp 26) rfl _ #[.int .i64 xk,.string xt,.int .i64 xc,.slice Ai xs.length ci] rfl rfl 24 _ HN.out (by kernel_rfl) (by simp) (by simp [Value.oneCell']) ?_
  refine zCq HN.out (fun X9 HX9=>?_)
  have HXB:Hid (Below W0.heap.size W0 X9):=(bwt HW.out).trans (HX9.out.1.below (bwt HW.out).size (fun k e=>by rw [e];first | exact Nat.le_refl _ | exact HW.out.size))
  have HNE:Hid (w.heap.size + 1 < W0.heap.size):=HO2.out.lt
  refine hK.out _ _ (HXB.out) (fun hHeld=>?_)
  clear hK K
  try simp only [Act.put,List.setIfInBounds_toArray,List.set_cons_zero,List.set_cons_succ]
  refine wpAnyH_take (i:=16) (oi:=⟨some 8,_,_,_,_,_⟩) (v:=_) rfl (by kernel_rfl) (by kernel_rfl) (by kernel_rfl) (fun _ _ _ h=>h) (Or.inl ⟨by rfl,fun W hS=>by clear hS;go_simp;try with_reducible rfl⟩) hHeld ?_
  try simp only [Act.put,List.setIfInBounds_toArray,List.set_cons_zero,List.set_cons_succ]
  refine wpAnyH_done (by kernel_rfl) ?_ _
  refine NoPanic.normal ?_
  rotate_left
  go_simp
  first | have HN:=hid (zAc.at0 w1 (.cells #[.int .i64 0,.string ⟨#[]⟩,.int .i64 0,.slice none 0 0] 24)) | have HN:=hid ((zAc.at0 W0 (.cells #[.int .i64 0,.string ⟨#[]⟩,.int .i64 0,.slice none 0 0] 24)).dr)
  refine hK.out _ _ (bwt HW.out) (fun hHeld=>?_)
  clear hK K
  try simp only [Act.put,List.setIfInBounds_toArray,List.set_cons_zero,List.set_cons_succ]
  refine wpAnyH_ready (rs:=[10]) (by kernel_rfl) (by simp) ?_
  refine (AllReadyH.cons (o:=⟨some 25,_,_,_,_,_⟩) rfl (fun K hK=>?_) AllReadyH.nil)
  go_simp
  refine Calls.mono (CI.out _ (bwt HW.out)) ?_
  rintro e w1 ⟨v1,rfl,hr1,hb1⟩
  obtain ⟨Ai,ci,rfl⟩:=hr1.form
  have HRI:=hid hr1
  try have HN:=hid (HN.out.below hb1)
  have HW:=hid ((bwt HW.out).trans (hb1.mono (bwt HW.out).size))
  clear hr1 hb1
  refine hK.out _ _ (HW.out) (fun hHeld=>?_)
  clear hK K
  try simp only [Act.put,List.setIfInBounds_toArray,List.set_cons_zero,List.set_cons_succ]
  refine wpAnyH_take (i:=11) (oi:=⟨some 14,_,_,_,_,_⟩) (v:=_) rfl (by kernel_rfl) (by kernel_rfl) (by kernel_rfl) (fun _ _ _ h=>h) (Or.inl ⟨by rfl,fun W hS=>by clear hS;go_simp;try with_reducible rfl⟩) hHeld ?_
  try simp only [Act.put,List.setIfInBounds_toArray,List.set_cons_zero,List.set_cons_succ]
  refine wpAnyH_take (i:=12) (oi:=⟨some 26,_,_,_,_,_⟩) (v:=_) rfl (by kernel_rfl) (by kernel_rfl) (by kernel_rfl) (fun _ _ _ h=>h) (Or.inl ⟨by rfl,fun W hS=>by clear hS;go_simp;try with_reducible rfl⟩) hHeld ?_
  try simp only [Act.put,List.setIfInBounds_toArray,List.set_cons_zero,List.set_cons_succ]
  refine wpAnyH_take (i:=13) (oi:=⟨some 27,_,_,_,_,_⟩) (v:=_) rfl (by kernel_rfl) (by kernel_rfl) (by kernel_rfl) (fun _ _ _ h=>h) (Or.inl ⟨by rfl,fun W hS=>by clear hS;go_simp;try with_reducible rfl⟩) hHeld ?_
  try simp only [Act.put,List.setIfInBounds_toArray,List.set_cons_zero,List.set_cons_succ]
  refine wpAnyH_ready (rs:=[15]) (by kernel_rfl) (by simp) ?_
  refine (AllReadyH.cons (o:=⟨none,_,_,_,_,_⟩) rfl (fun K hK=>?_) AllReadyH.nil)
  rw [if_pos (by rfl)]
  refine wp_store_row 24 (.tmp 7) (.tmp 26) rfl _ #[.int .i64 xk,.string xt,.int .i64 xc,.slice Ai xs.length ci] rfl rfl 24 _ HN.out (by kernel_rfl) (by simp) (by simp [Value.oneCell']) ?_
  refine zCq HN.out (fun X9 HX9=>?_)
  have HXB:Hid (Below W0.heap.size W0 X9):=(bwt HW.out).trans (HX9.out.1.below (bwt HW.out).size (fun k e=>by rw [e];first | exact Nat.le_refl _ | exact HW.out.size))
  have HNE:Hid (w.heap.size + 1 < W0.heap.size):=HO2.out.lt
  refine hK.out _ _ (HXB.out) (fun hHeld=>?_)
  clear hK K
  try simp only [Act.put,List.setIfInBounds_toArray,List.set_cons_zero,List.set_cons_succ]
  refine wpAnyH_take (i:=16) (oi:=⟨some 8,_,_,_,_,_⟩) (v:=_) rfl (by kernel_rfl) (by kernel_rfl) (by kernel_rfl) (fun _ _ _ h=>h) (Or.inl ⟨by rfl,fun W hS=>by clear hS;go_simp;try with_reducible rfl⟩) hHeld ?_
  try simp only [Act.put,List.setIfInBounds_toArray,List.set_cons_zero,List.set_cons_succ]
  refine wpAnyH_done (by kernel_rfl) ?_ _
  refine NoPanic.normal ?_
  rotate_left
  all_goals
   have HG:=hid (HO2.out.below HXB.out)
   have HGP:Hid (gp < X9.heap.size∧gp≠w.heap.size + 1):=⟨Nat.lt_of_lt_of_le HGP0.out (HB0.out.trans (HXB.out.mono HB0.out.size)).size,by have:=HGP0.out;omega⟩
   go_upto_region 5 with fail
   refine wp_region_noPanic ?_
   refine wp_region_held_drew (S:=fun w'=>Kept (fun k=>k = w.heap.size + 1) X9 w') (by kernel_rfl) (Kept.of_below (zC2 (Below.refl _ _)) _) (fun hHeld=>?_)
   refine wpAnyH_take (i:=0) (oi:=⟨some 28,_,_,_,_,_⟩) (v:=_) rfl (by kernel_rfl) (by kernel_rfl) (by kernel_rfl) (fun _ _ _ h=>h) (Or.inl ⟨by rfl,fun W hS=>by clear hS;go_simp;try with_reducible rfl⟩) hHeld ?_
   try simp only [Act.put,List.setIfInBounds_toArray,List.set_cons_zero,List.set_cons_succ]
   refine wpAnyH_take (i:=1) (oi:=⟨some 29,_,_,_,_,_⟩) (v:=_) rfl (by kernel_rfl) (by kernel_rfl) (by kernel_rfl) (fun _ _ _ h=>h) (Or.inl ⟨by rfl,fun W hS=>by clear hS;go_simp;try with_reducible rfl⟩) hHeld ?_
   try simp only [Act.put,List.setIfInBounds_toArray,List.set_cons_zero,List.set_cons_succ]
   refine wpAnyH_take (i:=2) (oi:=⟨some 30,_,_,_,_,_⟩) (v:=_) rfl (by kernel_rfl) (by kernel_rfl) (by kernel_rfl) (fun _ _ _ h=>h) (Or.inl ⟨by rfl,fun W hS=>by clear hS;go_simp;try with_reducible rfl⟩) hHeld ?_
   try simp only [Act.put,List.setIfInBounds_toArray,List.set_cons_zero,List.set_cons_succ]
   refine wpAnyH_take (i:=3) (oi:=⟨some 31,_,_,_,_,_⟩) (v:=_) rfl (by kernel_rfl) (by kernel_rfl) (by kernel_rfl) (fun _ _ _ h=>h) (Or.inl ⟨by rfl,fun W hS=>by clear hS;go_simp;try with_reducible rfl⟩) hHeld ?_
   try simp only [Act.put,List.setIfInBounds_toArray,List.set_cons_zero,List.set_cons_succ]
   refine wpAnyH_take (i:=4) (oi:=⟨some 32,_,_,_,_,_⟩) (v:=_) rfl (by kernel_rfl) (by kernel_rfl) (by kernel_rfl) (fun _ _ _ h=>h) (Or.inl ⟨by rfl,fun W hS=>by clear hS;go_simp;try with_reducible rfl⟩) hHeld ?_
   try simp only [Act.put,List.setIfInBounds_toArray,List.set_cons_zero,List.set_cons_succ]
   refine wpAnyH_take (i:=5) (oi:=⟨some 33,_,_,_,_,_⟩) (v:=_) rfl (by kernel_rfl) (by kernel_rfl) (by kernel_rfl) (fun _ _ _ h=>h) (Or.inl ⟨by rfl,fun W hS=>by clear hS;go_simp;try with_reducible rfl⟩) hHeld ?_
   try simp only [Act.put,List.setIfInBounds_toArray,List.set_cons_zero,List.set_cons_succ]
   refine wpAnyH_take (i:=6) (oi:=⟨some 34,_,_,_,_,_⟩) (v:=_) rfl (by kernel_rfl) (by kernel_rfl) (by kernel_rfl) (fun _ _ _ h=>h) (Or.inl ⟨by rfl,fun W hS=>by clear hS;go_simp;try with_reducible rfl⟩) hHeld ?_
   try simp only [Act.put,List.setIfInBounds_toArray,List.set_cons_zero,List.set_cons_succ]
   refine wpAnyH_take (i:=7) (oi:=⟨some 35,_,_,_,_,_⟩) (v:=_) rfl (by kernel_rfl) (by kernel_rfl) (by kernel_rfl) (fun _ _ _ h=>h) (Or.inl ⟨by rfl,fun W hS=>by clear hS;go_simp;try with_reducible rfl⟩) hHeld ?_
   try simp only [Act.put,List.setIfInBounds_toArray,List.set_cons_zero,List.set_cons_succ]
   refine wpAnyH_take (i:=8) (oi:=⟨some 36,_,_,_,_,_⟩) (v:=_) rfl (by kernel_rfl) (by kernel_rfl) (by kernel_rfl) (fun _ _ _ h=>h) (Or.inl ⟨by rfl,fun W hS=>by have h:=(hS.cell (p:=⟨gp,op + n,none⟩) HGP.out.1 HGP.out.2).trans (KP.out X9 HXB.out);clear hS;go_simp;try with_reducible rfl⟩) hHeld ?_
   try simp only [Act.put,List.setIfInBounds_toArray,List.set_cons_zero,List.set_cons_succ]
   refine wpAnyH_take (i:=9) (oi:=⟨some 37,_,_,_,_,_⟩) (v:=_) rfl (by kernel_rfl) (by kernel_rfl) (by kernel_rfl) (fun _ _ _ h=>h) (Or.inl ⟨by rfl,fun W hS=>by clear hS;go_simp;try with_reducible rfl⟩) hHeld ?_
   try simp only [Act.put,List.setIfInBounds_toArray,List.set_cons_zero,List.set_cons_succ]
   refine wpAnyH_take (i:=10) (oi:=⟨some 38,_,_,_,_,_⟩) (v:=_) rfl (by kernel_rfl) (by kernel_rfl) (by kernel_rfl) (fun _ _ _ h=>h) (Or.inl ⟨by rfl,fun W hS=>by clear hS;go_simp;try with_reducible rfl⟩) hHeld ?_
   try simp only [Act.put,List.setIfInBounds_toArray,List.set_cons_zero,List.set_cons_succ]
   refine wpAnyH_take (i:=11) (oi:=⟨some 39,_,_,_,_,_⟩) (v:=_) rfl (by kernel_rfl) (by kernel_rfl) (by kernel_rfl) (fun _ _ _ h=>h) (Or.inl ⟨by rfl,fun W hS=>by clear hS;go_simp;try with_reducible rfl⟩) hHeld ?_
   try simp only [Act.put,List.setIfInBounds_toArray,List.set_cons_zero,List.set_cons_succ]
   refine wpAnyH_take (i:=12) (oi:=⟨some 40,_,_,_,_,_⟩) (v:=_) rfl (by kernel_rfl) (by kernel_rfl) (by kernel_rfl) (fun _ _ _ h=>h) (Or.inl ⟨by rfl,fun W hS=>by clear hS;go_simp;try with_reducible rfl⟩) hHeld ?_
   try simp only [Act.put,List.setIfInBounds_toArray,List.set_cons_zero,List.set_cons_succ]
   refine wpAnyH_take (i:=13) (oi:=⟨some 41,_,_,_,_,_⟩) (v:=_) rfl (by kernel_rfl) (by kernel_rfl) (by kernel_rfl) (fun _ _ _ h=>h) (Or.inl ⟨by rfl,fun W hS=>by have h:=(hS.cell (p:=⟨gp,op + n1,none⟩) HGP.out.1 HGP.out.2).trans (KQ.out X9 HXB.out);clear hS;go_simp;try with_reducible rfl⟩) hHeld ?_
   try simp only [Act.put,List.setIfInBounds_toArray,List.set_cons_zero,List.set_cons_succ]
   refine wpAnyH_take (i:=14) (oi:=⟨some 42,_,_,_,_,_⟩) (v:=_) rfl (by kernel_rfl) (by kernel_rfl) (by kernel_rfl) (fun _ _ _ h=>h) (zB6 24 (.tmp 7) rfl (by rfl) _ rfl (fun w hS=>hS.obj HX9.out.2.1 (by first | exact Nat.ne_of_gt HNE.out | exact Nat.ne_of_gt (Nat.lt_of_lt_of_le HNE.out HW.out.size))) Tryz.underlying24 (by kernel_rfl)) hHeld ?_
   try simp only [Act.put,List.setIfInBounds_toArray,List.set_cons_zero,List.set_cons_succ]
   refine wpAnyH_take (i:=15) (oi:=⟨some 43,_,_,_,_,_⟩) (v:=_) rfl (by kernel_rfl) (by kernel_rfl) (by kernel_rfl) (fun _ _ _ h=>h) (Or.inl ⟨by rfl,fun W hS=>by clear hS;go_simp;try with_reducible rfl⟩) hHeld ?_
   try simp only [Act.put,List.setIfInBounds_toArray,List.set_cons_zero,List.set_cons_succ]
   refine wpAnyH_ready (rs:=[16]) (by kernel_rfl) (by simp) ?_
   refine (AllReadyH.cons (o:=⟨none,_,_,_,_,_⟩) rfl (fun K hK=>?_) AllReadyH.nil)
   rw [if_pos (by rfl)]
   refine wp_store_row 158 (.tmp 4) (.tmp 43) rfl (w.heap.size + 1) #[.slice A1 n cp,.int .i64 pn,.int .i64 pm,.int .i64 xk,.string xt,.int .i64 xc,.slice Ai xs.length ci] rfl rfl 158 _ HG.out (by kernel_rfl) (by simp) (by simp [Value.oneCell']) ?_
   refine zCq HG.out (fun Y9 HY9=>?_)
   refine hK.out _ _ ((Kept.of_below (zC2 (Below.refl _ _)) _).trans' HY9.out.1) (fun hHeld=>?_)
   clear hK K
   try simp only [Act.put,List.setIfInBounds_toArray,List.set_cons_zero,List.set_cons_succ]
   refine wpAnyH_take (i:=17) (oi:=⟨some 5,_,_,_,_,_⟩) (v:=_) rfl (by kernel_rfl) (by kernel_rfl) (by kernel_rfl) (fun _ _ _ h=>h) (Or.inl ⟨by rfl,fun W hS=>by clear hS;go_simp;try with_reducible rfl⟩) hHeld ?_
   try simp only [Act.put,List.setIfInBounds_toArray,List.set_cons_zero,List.set_cons_succ]
   refine wpAnyH_done (by kernel_rfl) ?_ _
   refine NoPanic.normal ?_
   go_wp2_with fail
   refine bodyPost_ret (v:=.tuple #[.agg #[.slice A1 n cp,.int .i64 pn,.int .i64 pm,.int .i64 xk,.string xt,.int .i64 xc,.slice Ai xs.length ci],.bool true]) (zAj Tryz.results142 _ _ _ (w.heap.size + 1) 158 _ (0,0) _ rfl HY9.out.2.1 rfl Tryz.underlying158 (by kernel_rfl) _ rfl) rfl ?_
   have hbX:Below w.heap.size w X9.drew:=Below.drew (HB0.out.trans (HXB.out.mono HB0.out.size))
   have hbY:=hbX.trans ((HY9.out.1.below (B:=w.heap.size) hbX.size (fun k e=>by rw [e];exact Nat.le_succ _)))
   have hx:∀ q:Addr,q.block < w.heap.size→Y9.cell? q = w1.cell? q:=fun q hq=>(HY9.out.1.cell (Nat.lt_of_lt_of_le hq hbX.size) (by omega)).trans (by
    first
     | exact (HX9.out.1.cell (Nat.lt_of_lt_of_le hq (HB0.out.trans (HW.out.mono HB0.out.size)).size) (by have:=(HB0.out.trans (HW.out.mono HB0.out.size)).size;have:=HB0.out.size;omega))
     | exact (HX9.out.1.cell (Nat.lt_of_lt_of_le hq (HB0.out.trans ((bwt HW.out).mono HB0.out.size)).size) (by have:=(HB0.out.trans (HW.out.mono HB0.out.size)).size;omega)).trans ((blA w1 _).cell (Nat.lt_of_lt_of_le hq (HB0.out.trans (HW.out.mono HB0.out.size)).size)))
   refine ⟨hbY,.inr ⟨_,A1,cp,Ai,ci,HR.out,?_,?_,HRI.out.keep (fun q hq=>hx q hq) (fun _ h=>h)⟩⟩
   ·simp only [HLN.out];rfl
   ·simp only [HLN.out];exact HQ.out Y9 hbY
set_option maxHeartbeats 4000000 in
theorem zKa (S:Nat→Prop) (it:Tree) (s:Nat) (outer:List Int) (idx:Int) (Ao Ai:Option Addr) (co ci:Nat) (w:World) (hS:∀ k,S k→k < w.heap.size) (hv:zAa zAb w S it.kids (.slice Ai it.kids.length ci)) (hok:zAu it) (hct:zAe it≤900000) (hro:zAh w S outer (.slice Ao outer.length co)) (hs:s < it.kids.length) :
  Calls Tryz.prog 143 #[.agg #[.slice Ao outer.length co,.int .i64 idx,.int .i64 (s:Int),.int .i64 it.kind,.string it.text,.int .i64 it.cols,.slice Ai it.kids.length ci]] w (OpP S w (unwS ⟨outer,idx,(s:Int),it⟩)):=by
 obtain ⟨W0,hW0⟩:∃ W0,(w.alloc (.cells #[.slice Ao outer.length co,.int .i64 idx,.int .i64 (s:Int),.int .i64 it.kind,.string it.text,.int .i64 it.cols,.slice Ai it.kids.length ci] 158)).alloc (.cells #[.int .i64 0,.slice none 0 0,.int .i64 0,.int .i64 0,.slice none 0 0,.int .i64 0,.string ⟨#[]⟩,.string ⟨#[]⟩] 67) = W0:=⟨_,rfl⟩
 have hb0:Below w.heap.size w W0:=by rw [← hW0];exact zAp (blA _ _) _
 have HO1:Hid (zAc W0 w.heap.size (.cells #[.slice Ao outer.length co,.int .i64 idx,.int .i64 (s:Int),.int .i64 it.kind,.string it.text,.int .i64 it.cols,.slice Ai it.kids.length ci] 158)):=by show zAc _ _ _;rw [← hW0];exact (zAc.at0 _ _).al _
 have HO2:Hid (zAc W0 (w.heap.size + 1) (.cells #[.int .i64 0,.slice none 0 0,.int .i64 0,.int .i64 0,.slice none 0 0,.int .i64 0,.string ⟨#[]⟩,.string ⟨#[]⟩] 67)):=by show zAc _ _ _;rw [← hW0];exact zAc.at1 _ _ _
 have HB0:=hid hb0
 have hlen:it.kids.length≤1000000:=by have:=zAn it;omega
 have CR:Hid (∀ W,Below w.heap.size w W→Calls Tryz.prog 116 #[.agg #[.int .i64 it.kind,.string it.text,.int .i64 it.cols,.slice Ai it.kids.length ci],.int .i64 (s:Int),.agg #[.int .i64 1,.string ⟨#[]⟩,.int .i64 0,.slice none 0 0]] W (zEa S W (zAr it s []))):=fun W hW =>
  zEd it (rowT []) s Ai none ci 0 W S (fun k hk=>Nat.lt_of_lt_of_le (hS k hk) hW.size) hs hlen (zHv []) (hv.keep (fun q hq=>hW.cell (hS _ hq)) (fun _ h=>h)) (zAa.nil_ 0 (Nat.zero_le _) none)
 obtain ⟨_,_,rs,hq,_,_,hrd,hls⟩:=hv
 cases hq
 obtain ⟨gx,ox,Bx,bx,rs2,rfl,hgx,x0,x1,x2,x3,_,_,_,hx5,hx6,hrx,hlx⟩:=zAy hrd hls hs
 have hgx:=hS gx hgx
 obtain ⟨n,hn⟩:∃ n,n = it.kids[s].kids.length:=⟨_,rfl⟩
 rw [← hn] at x3
 have KX:Hid (∀ W,Kept (fun k=>k = w.heap.size + 1) W0 W→W.cell? ⟨gx,ox + s * 4 + 3,none⟩ = some (.slice Bx n bx)):=fun W hW=>(hW.cell (p:=⟨gx,_,none⟩) (Nat.lt_of_lt_of_le hgx hb0.size) (by show ¬ gx = _;omega)).trans ((hb0.cell (p:=⟨gx,_,none⟩) hgx).trans x3)
 have HR:Hid (unwS ⟨outer,idx,(s:Int),it⟩ = ⟨4,outer,idx,n,[zAr it s []],(s:Int),noT,noT⟩):=by
  show _ = _
  unfold unwS
  simp only [Int.toNat_natCast]
  rw [zBy (by simpa using hs)]
  simp only [Int.toNat_natCast,← hn]
 have HOK:Hid (zAu (zAr it s [])):=hok
 have HSS:=hid hS
 have HHN:=hid hn
 have HRO:=hid hro
 have j0:(0:Int)≤(s:Int):=by omega
 have j1:(s:Int) < (it.kids.length:Int):=by omega
 have HW:Hid (Below W0.heap.size W0 W0):=hid (Below.refl _ _)
 generalize unwS ⟨outer,idx,(s:Int),it⟩ = RES at *
 clear hS hro hok hct hrd hls hx5 hx6 hrx hlx x0 x1 x2 x3 hb0 hgx hlen hn
 go_enter Tryz.func143,Tryz.ntmps143
 go_upto_region 1 with fail
 clear hW0
 refine wp_region_noPanic ?_
 refine wp_region_held_drew (S:=fun w'=>Kept (fun k=>k = w.heap.size + 1) W0 w') (by kernel_rfl) (kwt HW.out) (fun hHeld=>?_)
 refine wpAnyH_take (i:=0) (oi:=⟨some 3,_,_,_,_,_⟩) (v:=_) rfl (by kernel_rfl) (by kernel_rfl) (by kernel_rfl) (fun _ _ _ h=>h) (Or.inl ⟨by rfl,fun W hS=>by clear hS;go_simp;try with_reducible rfl⟩) hHeld ?_
 try simp only [Act.put,List.setIfInBounds_toArray,List.set_cons_zero,List.set_cons_succ]
 refine wpAnyH_take (i:=1) (oi:=⟨some 4,_,_,_,_,_⟩) (v:=_) rfl (by kernel_rfl) (by kernel_rfl) (by kernel_rfl) (fun _ _ _ h=>h) (Or.inl ⟨by rfl,fun W hS=>by have h0:=hS.obj HO1.out (Nat.ne_of_lt (Nat.lt_succ_self _));have c0:=h0.cell 0;simp only [List.getElem?_toArray,List.getElem?_cons_zero,List.getElem?_cons_succ] at c0;clear hS h0;go_simp;try with_reducible rfl⟩) hHeld ?_
 try simp only [Act.put,List.setIfInBounds_toArray,List.set_cons_zero,List.set_cons_succ]
 refine wpAnyH_take (i:=2) (oi:=⟨some 5,_,_,_,_,_⟩) (v:=_) rfl (by kernel_rfl) (by kernel_rfl) (by kernel_rfl) (fun _ _ _ h=>h) (Or.inl ⟨by rfl,fun W hS=>by clear hS;go_simp;try with_reducible rfl⟩) hHeld ?_
 try simp only [Act.put,List.setIfInBounds_toArray,List.set_cons_zero,List.set_cons_succ]
 refine wpAnyH_take (i:=3) (oi:=⟨some 6,_,_,_,_,_⟩) (v:=_) rfl (by kernel_rfl) (by kernel_rfl) (by kernel_rfl) (fun _ _ _ h=>h) (Or.inl ⟨by rfl,fun W hS=>by have h0:=hS.obj HO1.out (Nat.ne_of_lt (Nat.lt_succ_self _));have c1:=h0.cell 1;simp only [List.getElem?_toArray,List.getElem?_cons_zero,List.getElem?_cons_succ] at c1;clear hS h0;go_simp;try with_reducible rfl⟩) hHeld ?_
 try simp only [Act.put,List.setIfInBounds_toArray,List.set_cons_zero,List.set_cons_succ]
 refine wpAnyH_take (i:=4) (oi:=⟨some 7,_,_,_,_,_⟩) (v:=_) rfl (by kernel_rfl) (by kernel_rfl) (by kernel_rfl) (fun _ _ _ h=>h) (Or.inl ⟨by rfl,fun W hS=>by clear hS;go_simp;try with_reducible rfl⟩) hHeld ?_
 try simp only [Act.put,List.setIfInBounds_toArray,List.set_cons_zero,List.set_cons_succ]
 refine wpAnyH_take (i:=5) (oi:=⟨some 8,_,_,_,_,_⟩) (v:=_) rfl (by kernel_rfl) (by kernel_rfl) (by kernel_rfl) (fun _ _ _ h=>h) (Or.inl ⟨by rfl,fun W hS=>by clear hS;go_simp;try with_reducible rfl⟩) hHeld ?_
 try simp only [Act.put,List.setIfInBounds_toArray,List.set_cons_zero,List.set_cons_succ]
 refine wpAnyH_take (i:=6) (oi:=⟨some 9,_,_,_,_,_⟩) (v:=_) rfl (by kernel_rfl) (by kernel_rfl) (by kernel_rfl) (fun _ _ _ h=>h) (Or.inl ⟨by rfl,fun W hS=>by have h0:=hS.obj HO1.out (Nat.ne_of_lt (Nat.lt_succ_self _));have c6:=h0.cell 6;simp only [List.getElem?_toArray,List.getElem?_cons_zero,List.getElem?_cons_succ] at c6;clear hS h0;go_simp;try with_reducible rfl⟩) hHeld ?_
 try simp only [Act.put,List.setIfInBounds_toArray,List.set_cons_zero,List.set_cons_succ]
 refine wpAnyH_take (i:=7) (oi:=⟨some 10,_,_,_,_,_⟩) (v:=_) rfl (by kernel_rfl) (by kernel_rfl) (by kernel_rfl) (fun _ _ _ h=>h) (Or.inl ⟨by rfl,fun W hS=>by clear hS;go_simp;try with_reducible rfl⟩) hHeld ?_
 try simp only [Act.put,List.setIfInBounds_toArray,List.set_cons_zero,List.set_cons_succ]
 refine wpAnyH_take (i:=8) (oi:=⟨some 11,_,_,_,_,_⟩) (v:=_) rfl (by kernel_rfl) (by kernel_rfl) (by kernel_rfl) (fun _ _ _ h=>h) (Or.inl ⟨by rfl,fun W hS=>by have h0:=hS.obj HO1.out (Nat.ne_of_lt (Nat.lt_succ_self _));have c2:=h0.cell 2;simp only [List.getElem?_toArray,List.getElem?_cons_zero,List.getElem?_cons_succ] at c2;clear hS h0;go_simp;try with_reducible rfl⟩) hHeld ?_
 try simp only [Act.put,List.setIfInBounds_toArray,List.set_cons_zero,List.set_cons_succ]
 refine wpAnyH_take (i:=9) (oi:=⟨some 12,_,_,_,_,_⟩) (v:=_) rfl (by kernel_rfl) (by kernel_rfl) (by kernel_rfl) (fun _ _ _ h=>h) (Or.inl ⟨by rfl,fun W hS=>by clear hS;go_simp;try with_reducible rfl⟩) hHeld ?_
 try simp only [Act.put,List.setIfInBounds_toArray,List.set_cons_zero,List.set_cons_succ]
 refine wpAnyH_take (i:=10) (oi:=⟨some 13,_,_,_,_,_⟩) (v:=_) rfl (by kernel_rfl) (by kernel_rfl) (by kernel_rfl) (fun _ _ _ h=>h) (Or.inl ⟨by rfl,fun W hS=>by clear hS;go_simp;try with_reducible rfl⟩) hHeld ?_
 try simp only [Act.put,List.setIfInBounds_toArray,List.set_cons_zero,List.set_cons_succ]
 refine wpAnyH_take (i:=11) (oi:=⟨some 14,_,_,_,_,_⟩) (v:=_) rfl (by kernel_rfl) (by kernel_rfl) (by kernel_rfl) (fun _ _ _ h=>h) (Or.inl ⟨by rfl,fun W hS=>by have h:=KX.out W hS;clear hS;go_simp;try with_reducible rfl⟩) hHeld ?_
 try simp only [Act.put,List.setIfInBounds_toArray,List.set_cons_zero,List.set_cons_succ]
 refine wpAnyH_take (i:=12) (oi:=⟨some 15,_,_,_,_,_⟩) (v:=_) rfl (by kernel_rfl) (by kernel_rfl) (by kernel_rfl) (fun _ _ _ h=>h) (Or.inl ⟨by rfl,fun W hS=>by clear hS;go_simp;try with_reducible rfl⟩) hHeld ?_
 try simp only [Act.put,List.setIfInBounds_toArray,List.set_cons_zero,List.set_cons_succ]
 refine wpAnyH_take (i:=13) (oi:=⟨some 16,_,_,_,_,_⟩) (v:=_) rfl (by kernel_rfl) (by kernel_rfl) (by kernel_rfl) (fun _ _ _ h=>h) (Or.inl ⟨by rfl,fun W hS=>by clear hS;go_simp;try with_reducible rfl⟩) hHeld ?_
 try simp only [Act.put,List.setIfInBounds_toArray,List.set_cons_zero,List.set_cons_succ]
 refine wpAnyH_take (i:=14) (oi:=⟨some 17,_,_,_,_,_⟩) (v:=_) rfl (by kernel_rfl) (by kernel_rfl) (by kernel_rfl) (fun _ _ _ h=>h) (Or.inl ⟨by rfl,fun W hS=>by have h0:=hS.obj HO1.out (Nat.ne_of_lt (Nat.lt_succ_self _));have c2:=h0.cell 2;simp only [List.getElem?_toArray,List.getElem?_cons_zero,List.getElem?_cons_succ] at c2;clear hS h0;go_simp;try with_reducible rfl⟩) hHeld ?_
 try simp only [Act.put,List.setIfInBounds_toArray,List.set_cons_zero,List.set_cons_succ]
 refine wpAnyH_take (i:=15) (oi:=⟨some 18,_,_,_,_,_⟩) (v:=_) rfl (by kernel_rfl) (by kernel_rfl) (by kernel_rfl) (fun _ _ _ h=>h) (Or.inl ⟨by rfl,fun W hS=>by clear hS;go_simp;try with_reducible rfl⟩) hHeld ?_
 try simp only [Act.put,List.setIfInBounds_toArray,List.set_cons_zero,List.set_cons_succ]
 refine wpAnyH_take (i:=16) (oi:=⟨some 19,_,_,_,_,_⟩) (v:=_) rfl (by kernel_rfl) (by kernel_rfl) (by kernel_rfl) (fun _ _ _ h=>h) (Or.inl ⟨by rfl,fun W hS=>by have h0:=hS.obj HO1.out (Nat.ne_of_lt (Nat.lt_succ_self _));have c3:=h0.cell 3;have c4:=h0.cell 4;have c5:=h0.cell 5;have c6:=h0.cell 6;simp only [List.getElem?_toArray,List.getElem?_cons_zero,List.getElem?_cons_succ] at c3 c4 c5 c6;clear hS h0;go_simp;try with_reducible rfl⟩) hHeld ?_
 try simp only [Act.put,List.setIfInBounds_toArray,List.set_cons_zero,List.set_cons_succ]
 refine wpAnyH_take (i:=17) (oi:=⟨some 20,_,_,_,_,_⟩) (v:=_) rfl (by kernel_rfl) (by kernel_rfl) (by kernel_rfl) (fun _ _ _ h=>h) (Or.inl ⟨by rfl,fun W hS=>by clear hS;go_simp;try with_reducible rfl⟩) hHeld ?_
 try simp only [Act.put,List.setIfInBounds_toArray,List.set_cons_zero,List.set_cons_succ]
 refine wpAnyH_take (i:=18) (oi:=⟨some 21,_,_,_,_,_⟩) (v:=_) rfl (by kernel_rfl) (by kernel_rfl) (by kernel_rfl) (fun _ _ _ h=>h) (Or.inl ⟨by rfl,fun W hS=>by have h0:=hS.obj HO1.out (Nat.ne_of_lt (Nat.lt_succ_self _));have c2:=h0.cell 2;simp only [List.getElem?_toArray,List.getElem?_cons_zero,List.getElem?_cons_succ] at c2;clear hS h0;go_simp;try with_reducible rfl⟩) hHeld ?_
 try simp only [Act.put,List.setIfInBounds_toArray,List.set_cons_zero,List.set_cons_succ]
 refine wpAnyH_ready (rs:=[19]) (by kernel_rfl) (by simp) ?_
 refine (AllReadyH.cons (o:=⟨some 22,_,_,_,_,_⟩) rfl (fun K hK=>?_) AllReadyH.nil)
 go_simp
 refine Calls.mono (zHp _ none 0 0) ?_
 rintro e wt ⟨rfl,hbt⟩
 have HW:=hid ((bwt HW.out).trans (hbt.mono (bwt HW.out).size))
 clear hbt
 refine hK.out _ _ (kwt HW.out) (fun hHeld=>?_)
 clear hK K
 try simp only [Act.put,List.setIfInBounds_toArray,List.set_cons_zero,List.set_cons_succ]
 refine wpAnyH_ready (rs:=[20]) (by kernel_rfl) (by simp) ?_
 refine (AllReadyH.cons (o:=⟨some 23,_,_,_,_,_⟩) rfl (fun K hK=>?_) AllReadyH.nil)
 go_simp
 refine Calls.mono (CR.out _ (HB0.out.trans ((bwt HW.out).mono HB0.out.size))) ?_
 rintro e wr ⟨vr,rfl,hrr,hbr⟩
 obtain ⟨Af,cf,rfl⟩:=hrr.form
 have HWT:=HW
 have HRR:=hid hrr
 have HW:=hid ((bwt HW.out).trans (hbr.mono (bwt HW.out).size))
 clear hrr hbr
 refine hK.out _ _ (kwt HW.out) (fun hHeld=>?_)
 clear hK K
 try simp only [Act.put,List.setIfInBounds_toArray,List.set_cons_zero,List.set_cons_succ]
 refine wpAnyH_ready (rs:=[21]) (by kernel_rfl) (by simp) ?_
 refine (AllReadyH.cons (o:=⟨some 24,_,_,_,_,_⟩) rfl (fun K hK=>?_) AllReadyH.nil)
 go_simp
 refine hK.out _ _ (kwt HW.out) (fun hHeld=>?_)
 clear hK K
 try simp only [Act.put,List.setIfInBounds_toArray,List.set_cons_zero,List.set_cons_succ]
 refine wpAnyH_take (i:=22) (oi:=⟨some 25,_,_,_,_,_⟩) (v:=_) rfl (by kernel_rfl) (by kernel_rfl) (by kernel_rfl) (fun _ _ _ h=>h) (Or.inl ⟨by rfl,fun W hS=>by clear hS;go_simp;try with_reducible rfl⟩) hHeld ?_
 try simp only [Act.put,List.setIfInBounds_toArray,List.set_cons_zero,List.set_cons_succ]
 refine wpAnyH_ready (rs:=[23]) (by kernel_rfl) (by simp) ?_
 refine (AllReadyH.cons (o:=⟨none,_,_,_,_,_⟩) rfl (fun K hK=>?_) AllReadyH.nil)
 rw [if_pos (by rfl)]
 refine wp_store_row 67 (.tmp 2) (.tmp 25) rfl (w.heap.size + 1) #[.int .i64 4,.slice Ao outer.length co,.int .i64 idx,.int .i64 n,.slice (some ⟨wr.heap.size,0,none⟩) 1 1,.int .i64 (s:Int),.string ⟨#[]⟩,.string ⟨#[]⟩] rfl rfl 67 _ ((HO2.out.below HW.out).al _) (by kernel_rfl) (by simp) (by simp [Value.oneCell']) ?_
 refine zCq ((HO2.out.below HW.out).al _) (fun X9 HX9=>?_)
 refine hK.out _ _ ((kwt HW.out).trans' HX9.out.1) (fun hHeld=>?_)
 clear hK K
 try simp only [Act.put,List.setIfInBounds_toArray,List.set_cons_zero,List.set_cons_succ]
 refine wpAnyH_done (by kernel_rfl) ?_ _
 refine NoPanic.normal ?_
 go_wp2_with fail
 refine bodyPost_ret (v:=.agg #[.int .i64 4,.slice Ao outer.length co,.int .i64 idx,.int .i64 n,.slice (some ⟨wr.heap.size,0,none⟩) 1 1,.int .i64 (s:Int),.string ⟨#[]⟩,.string ⟨#[]⟩]) (results_cell_row Tryz.results143 _ _ (w.heap.size + 1) 67 _ (0,0) _ rfl HX9.out.2.1 Tryz.underlying67 rfl (by kernel_rfl)) rfl ?_
 rw [HR.out]
 have hbr:=HB0.out.trans (HW.out.mono HB0.out.size)
 have hz:=HO2.out.lt
 have hzw:=HW.out.size
 have hb0:=HB0.out.size
 have hlit:=litS (T:=24) (w:=wr) (S:=fun q=>S q∨w.heap.size≤q∧q < wr.heap.size∧q≠w.heap.size + 1) (fun q hq=>by rcases hq with hq | hq;exact Nat.lt_of_lt_of_le (HSS.out q hq) hbr.size;exact hq.2.1) (show zAu (.mk it.kind it.text it.cols (zAr it s []).kids) from HOK.out) (HRR.out.keep (fun _ _=>rfl) (fun q hq=>hq.imp id (fun h=>⟨Nat.le_trans (HB0.out.trans (HWT.out.mono HB0.out.size)).size h.1,h.2,by have:=HWT.out.size;omega⟩)))
 have hXs:X9.heap.size = wr.heap.size + 1:=by rw [HX9.out.2.2];simp
 have hx:∀ q:Addr,q.block < wr.heap.size + 1→q.block≠w.heap.size + 1→X9.cell? q = _:=fun q h1 h2=>HX9.out.1.cell (by simpa using h1) h2
 refine ⟨Ao,co,_,_,rfl,HRO.out.keep (fun q hq=>(hx q (by have:=HSS.out _ hq;have:=hbr.size;omega) (by have:=HSS.out _ hq;omega)).trans ((hbr.trans ((blA wr _).mono hbr.size)).cell (HSS.out _ hq))) (fun k hk=>⟨by rw [hXs];have:=HSS.out _ hk;have:=hbr.size;omega,.inl hk⟩),hlit.keep (fun q hq=>hx q ?_ ?_) (fun k hk=>?_),?_⟩
 ·rcases hq with (hq | hq) | hq
  ·have:=HSS.out _ hq;have:=hbr.size;omega
  ·have:=hq.2.1;omega
  ·omega
 ·rcases hq with (hq | hq) | hq
  ·have:=HSS.out _ hq;omega
  ·exact hq.2.2
  ·omega
 ·rw [hXs]
  rcases hk with (hq | hq) | hq
  ·exact ⟨by have:=HSS.out _ hq;have:=hbr.size;omega,.inl hq⟩
  ·exact ⟨by have:=hq.2.1;omega,.inr hq.1⟩
  ·exact ⟨by omega,.inr (by omega)⟩
 ·exact (hbr.trans ((blA wr _).mono hbr.size)).trans (HX9.out.1.below (by simp;omega) (fun k e=>by rw [e];exact Nat.le_succ _))
def AlcX (wk:World) (o:Obj) (X:World):Prop:=Below wk.heap.size wk X∧zAc X wk.heap.size o
theorem zBe {K:Act→World→Prop} {a:Act} {wk:World} {o:Obj} (hk:∀ X,Hid (AlcX wk o X)→K a X):K a (wk.alloc o):=hk _ ⟨blA wk o,by cases o <;> exact heap_alloc_new wk _⟩
theorem zBr {K:Act→World→Prop} {a:Act} {wk:World} {o:Obj} (hk:∀ X,Hid (AlcX wk o X)→K a X):K a (wk.alloc o).drew:=hk _ ⟨Below.drew (blA wk o),heap_alloc_new wk _⟩
theorem zHs {α:Type} {E:Enc α} {X:World} {b:Nat} {T:TypeId} {x:α} {cs:List Value} {S:Nat→Prop} (h:zAc X b (.cells cs.toArray T)) (hx:E.R X S x cs) (hb:S b):zAa E X S [x] (.slice (some ⟨b,0,none⟩) 1 1) :=
 ⟨_,_,cs,rfl,Nat.le_refl _,by simp [maxLen],fun _=>⟨b,0,rfl,hb,fun j u hu=>by rw [Nat.zero_add,h.cell j];simpa using hu⟩,zAw.single hx⟩
theorem of_facts {t:Tree} {p m rr:List Int} {ra rb:Int} (h:ofS t p m = ((rr,ra,rb),0)) (hpl:p.length≤90000) (hml:m.length≤90000):zAf t = true∧rr.length≤90000∧0≤ra∧ra≤rb∧rb≤1000:=by
 obtain ⟨hv,hp,_,f1,f2,f3,f4⟩:=zMv (t:=t) (p:=p) (m:=m) (by rw [h])
 rw [h] at f1 f2 f3 f4
 simp only at f1 f2 f3 f4
 have hcr:=zCe t rr
 have hlr:=zAn (zAm t rr).1
 have hvc:=(zA0 hv).1
 refine ⟨hv,?_,f2,f3,by omega⟩
 have h2:=h
 unfold ofS at h2
 split at h2 <;> unfold betV at h2 <;> split at h2
 ·simp at h2
 ·split at h2
  ·simp at h2
  ·have:=congrArg (fun x=>x.1.1.length) h2
   simp [btS] at this
   omega
 ·simp at h2
 ·split at h2
  ·simp at h2
  ·have:=congrArg (fun x=>x.1.1.length) h2
   simp [btS] at this
   omega
def FewO (ops:List OpD):Prop:=ops.length≤2∧∀ op ∈ ops,zAd op.nodes≤100000
theorem FewO.at_ {ops:List OpD} (h:FewO ops) (k:Nat) (hk:k < ops.length):zAd ops[k].nodes≤100000:=h.2 _ (List.getElem_mem hk)
theorem cutL_few (rr:List Int) (ra:Int) {l:List Tree} (h:zAd l≤1000):FewO (cutL rr ra l)∧(cutL rr ra l).length≤1:=by
 unfold cutL
 split
 ·exact ⟨⟨Nat.zero_le _,fun op h=>by simp at h⟩,Nat.zero_le _⟩
 ·refine ⟨⟨by simp,fun op h2=>?_⟩,Nat.le_refl _⟩
  rw [List.mem_singleton.1 h2]
  exact Nat.le_trans h (by decide)
theorem zN6 {t:Tree} {p m:List Int} {items:List Tree} {x:ByteArray} (h:zG3 t p m items x = true):zAe t≤300∧p.length≤60∧m.length≤60∧zAd items≤100∧x.size≤300:=by
 unfold zG3 at h
 simp only [Bool.and_eq_true,decide_eq_true_eq] at h
 have h1:=zLw h.1
 have h2:=zLw h.2.2.2.1
 have h3:zAe (rowT items) = 1 + zAd items:=rfl
 exact ⟨by omega,by omega,by omega,by omega,by omega⟩
end Go.Proofs.YtbjcioknfjofkaaGreat
