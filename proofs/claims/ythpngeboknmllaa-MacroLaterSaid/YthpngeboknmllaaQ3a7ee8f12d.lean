/- Texts put together. -/
import Derived.Test.YthpngeboknmllaaQ357b32f92d
import Derived.Test.YthpngeboknmllaaQab68bc44cb
import Derived.Deep.DeepCutAuto
set_option linter.unusedVariables false
set_option linter.unusedSimpArgs false
set_option maxRecDepth 100000
namespace Go.Proofs.Ythpngeboknmllaa
open Go.RowKit
def BoolP (w:World) (b:Bool) (e:Ending) (w':World):Prop:=e = .returned (.bool b)∧Below w.heap.size w w'
set_option maxHeartbeats 4000000 in
theorem template_any (t:Tree) (A:Option Addr) (cap:Nat) (P:Int) (w:World) (hv:SliceR treeE w (Lt w.heap.size) t.kids (.slice A t.kids.length cap)) (hok:NodeOk t) (hct:countS t≤1000000) :
  Calls Try.prog 17 #[.agg #[.int .i64 t.kind,.string t.text,.int .i64 t.cols,.slice A t.kids.length cap],.int .i64 P] w (BoolP w (tmplS t P)):=by
 have HS:Hid (tmplS t P = if P < 0∨4 < P then false else (plN P t 1 0 true).2.2 && validS (plN P t 1 0 true).1):=by show _ = _;rfl
 generalize tmplS t P = RES at *
 obtain ⟨W0,hW0⟩:∃ W0,w.alloc (.cells #[.int .i64 t.kind,.string t.text,.int .i64 t.cols,.slice A t.kids.length cap] 31) = W0:=⟨_,rfl⟩
 have hb0:Below w.heap.size w W0:=by rw [← hW0];exact blA _ _
 have HB0:=hid hb0
 have HO1:Hid (HasObj W0 w.heap.size (.cells #[.int .i64 t.kind,.string t.text,.int .i64 t.cols,.slice A t.kids.length cap] 31)):=by show HasObj _ _ _;rw [← hW0];exact HasObj.at0 _ _
 by_cases h1:P < 0
 ·have HF:Hid (RES = false):=by show _ = _;rw [HS.out,if_pos (.inl h1)]
  have d1:decide (P < 0) = true:=by simpa using h1
  clear h1 hv hok hct hb0
  go_enter Try.func17,Try.ntmps17
  go_wp2_with fail
  go_ret
  exact ⟨by rw [HF.out];rfl,HB0.out⟩
 have d1:decide (P < 0) = false:=by simpa using h1
 by_cases h2:4 < P
 ·have HF:Hid (RES = false):=by show _ = _;rw [HS.out,if_pos (.inr h2)]
  have d2:decide (4 < P) = true:=by simpa using h2
  clear h1 h2 hv hok hct hb0
  go_enter Try.func17,Try.ntmps17
  go_wp2_with fail
  go_ret
  exact ⟨by rw [HF.out];rfl,HB0.out⟩
 have d2:decide (4 < P) = false:=by simpa using h2
 have HF:=hid (HS.out.trans (if_neg (by omega)))
 obtain ⟨W1,hW1⟩:∃ W1,W0.alloc (.cells #[.int .i64 P,.int .i64 0,.bool true] 63) = W1:=⟨_,rfl⟩
 have hb1:Below w.heap.size w W1:=by rw [← hW1];exact blAlloc hb0 _
 have HB1:=hid hb1
 have hn1:HasObj W1 w.heap.size (.cells #[.int .i64 t.kind,.string t.text,.int .i64 t.cols,.slice A t.kids.length cap] 31):=by rw [← hW1];exact HO1.out.al _
 have hg:W0.heap.size = w.heap.size + 1:=by rw [← hW0];simp
 have hp1:HasObj W1 W0.heap.size (.cells #[.int .i64 P,.int .i64 0,.bool true] 63):=by rw [← hW1];exact HasObj.at0 _ _
 rw [hg] at hp1
 have CN:Hid (Calls Try.prog 29 #[.pointer (some ⟨w.heap.size + 1,0,none⟩),.pointer (some ⟨w.heap.size,0,none⟩),.int .i64 1] W1 (PlP (w.heap.size + 1) W1 P (plN P t 1 0 true))):=by
  obtain ⟨_,_,rs,hq,hc,hm,hrd,hls⟩:=hv
  cases hq
  refine plainer_any P t W1 (w.heap.size + 1) w.heap.size 0 A cap rs 0 1 true hok ⟨⟨hn1.cell 0,hn1.cell 1,hn1.cell 2,hn1.cell 3⟩,Nat.lt_succ_self _,hok.2.2,hc,hm,hrd.keep (Same.of_below hb1 (Nat.le_refl _)) (fun k hk=>Nat.lt_succ_of_lt hk),hls.keep (Same.of_below hb1 (Nat.le_refl _)) (fun k hk=>Nat.lt_succ_of_lt hk)⟩ hp1 (by omega) (by omega)
 have HX64:=hid (plN_ok64 P t 1 0 true hok)
 have hsz1:W1.heap.size = w.heap.size + 1 + 1:=by rw [← hW1];simp [hg]
 obtain ⟨X9,hX9⟩:∃ X9,plN P t 1 0 true = X9:=⟨_,rfl⟩
 rw [hX9] at HF CN HX64
 obtain ⟨x,mx,okx⟩:=X9
 unfold PlP at CN
 simp only at HF CN HX64
 clear h1 h2 hv hok hct hb0 hb1 hn1 hp1 hX9 HS
 go_enter Try.func17,Try.ntmps17
 go_wp2_with fail
 refine CN.out.mono ?_
 rintro e w5 ⟨v5,rfl,hv5,hk5,hp5⟩
 obtain ⟨A5,c5,rfl⟩:=hv5.form
 have HB5:=hid (HB1.out.trans (hk5.below (B:=w.heap.size) HB1.out.size (fun k e=>by omega)))
 have HP5:=hid hp5
 have CV:Hid (∀ W,Below w5.heap.size w5 W→Calls Try.prog 30 #[.agg #[.int .i64 x.kind,.string x.text,.int .i64 x.cols,.slice A5 x.kids.length c5]] W fun e w'=>e = .returned (.bool (validS x))∧Below W.heap.size W w'):=fun W hW=>nValid_any x A5 c5 W (hv5.keep (fun p hp=>hW.cell hp.2) (fun k hk=>Nat.lt_of_lt_of_le hk.2 hW.size)) HX64.out.2.2
 clear hv5 hk5 hp5 CN hW0 hW1 hg HO1 HB0 HB1 hsz1
 generalize validS x = bv at *
 go_upto_region 5 with (first
  | (refine sR 31 6 17 (HasObj.at0 _ _) ?_)
  | fail)
 generalize hX:World.setRow _ _ _ = X
 have hbx:=putB hX
 have HOX:=hid (put0 hX)
 have HPX:=hid (HP5.out.below hbx)
 have HBX:=hid (HB5.out.trans (hbx.mono HB5.out.size))
 have HBY:=hid hbx
 clear hX hbx HP5 HB5
 have k2:=HPX.out.cell 2
 simp only [List.getElem?_toArray,List.getElem?_cons_zero,List.getElem?_cons_succ] at k2
 cases okx
 ·go_wp2_with fail
  go_ret
  exact ⟨by rw [HF.out];rfl,HBX.out⟩
 ·obtain ⟨x0,x1,x2,x3⟩:=four9 HOX.out
  go_wp2_with (first
   | (go_at_call 30;refine Calls.mono (CV.out _ HBY.out) ?_;rintro e w6 ⟨rfl,hb6⟩;have HB6:=hid (HBX.out.trans (hb6.mono HBX.out.size));clear hb6)
   | fail)
  go_ret
  exact ⟨by rw [HF.out];rfl,HB6.out⟩
end Go.Proofs.Ythpngeboknmllaa
