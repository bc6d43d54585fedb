/- Texts put together. -/
import Derived.Test.YtbjcioknfjofkaaGreatQ2a6bd4da00
import Derived.Test.YtbjcioknfjofkaaGreatQ5f8487fc8c
import Derived.Test.YtbjcioknfjofkaaGreatQb423201e5f
set_option linter.unusedVariables false
set_option linter.unusedSimpArgs false
set_option maxRecDepth 100000
namespace Go.Proofs.YtbjcioknfjofkaaGreat
open Go.RowKit
set_option maxHeartbeats 4000000 in
theorem run1_any (t:Tree) (p m:List Int) (s:Int) (items:List Tree) (x:ByteArray) (f:Bool) (A Ap Am An:Option Addr) (cap cp cm cn:Nat) (w:World) (RES:RecD × Int)
  (hC:∀ W,Below w.heap.size w W→Calls Tryz.prog 15 #[.agg #[.int .i64 t.kind,.string t.text,.int .i64 t.cols,.slice A t.kids.length cap],.agg #[.slice Ap p.length cp,.slice Am m.length cm],.bool f] W (RecB W RES)) :
  Calls Tryz.prog 27 #[.agg #[.int .i64 t.kind,.string t.text,.int .i64 t.cols,.slice A t.kids.length cap],.agg #[.slice Ap p.length cp,.slice Am m.length cm],.agg #[.int .i64 1,.slice An items.length cn,.int .i64 s,.string x,.bool f]] w (RecB w RES):=by
 obtain ⟨W0,hW0⟩:∃ W0,(((w.alloc (.cells #[.int .i64 t.kind,.string t.text,.int .i64 t.cols,.slice A t.kids.length cap] 24)).alloc (.cells #[.slice Ap p.length cp,.slice Am m.length cm] 33)).alloc (.cells #[.int .i64 1,.slice An items.length cn,.int .i64 s,.string x,.bool f] 44)).alloc (.cells #[.slice none 0 0,.slice none 0 0,.slice none 0 0,.slice none 0 0,.slice none 0 0] 36) = W0:=⟨_,rfl⟩
 have hb0:Below w.heap.size w W0:=by rw [← hW0];exact zAp (zAp (zAp (blA _ _) _) _) _
 have ho1:zAc W0 w.heap.size (.cells #[.int .i64 t.kind,.string t.text,.int .i64 t.cols,.slice A t.kids.length cap] 24):=by rw [← hW0];exact (((zAc.at0 _ _).al _).al _).al _
 have ho2:zAc W0 (w.heap.size + 1) (.cells #[.slice Ap p.length cp,.slice Am m.length cm] 33):=by rw [← hW0];exact ((zAc.at1 _ _ _).al _).al _
 have ho3:zAc W0 (w.heap.size + 1 + 1) (.cells #[.int .i64 1,.slice An items.length cn,.int .i64 s,.string x,.bool f] 44):=by rw [← hW0];exact (zAc.at2 _ _ _ _).al _
 have HO4:Hid (zAc W0 (w.heap.size + 1 + 1 + 1) (.cells #[.slice none 0 0,.slice none 0 0,.slice none 0 0,.slice none 0 0,.slice none 0 0] 36)):=by show zAc _ _ _;rw [← hW0];exact zAc.new _ _ _ (by simp)
 have HC:=hid (hC W0 hb0)
 have HB0:=hid hb0
 have m0:=ho1.cell 0
 have m1:=ho1.cell 1
 have m2:=ho1.cell 2
 have m3:=ho1.cell 3
 have n0:=ho2.cell 0
 have n1:=ho2.cell 1
 have c0:=ho3.cell 0
 have c1:=ho3.cell 1
 have c2:=ho3.cell 2
 have c3:=ho3.cell 3
 have c4:=ho3.cell 4
 simp only [List.getElem?_toArray,List.getElem?_cons_zero,List.getElem?_cons_succ] at m0 m1 m2 m3 n0 n1 c0 c1 c2 c3 c4
 clear hC hb0 ho1 ho2 ho3
 go_enter Tryz.func27,Tryz.ntmps27
 go_wp2_with fail
 refine HC.out.mono ?_
 intro e wk hrec
 have HREC:=hid hrec
 obtain ⟨Ao9,co9,Ap9,cp9,Am9,cm9,Aap9,cap9,Aam9,cam9,rfl,_,_,_,_,_,hbw⟩:=hrec
 have HGW:=hid (HO4.out.below hbw)
 have HBW:=hid (zAq HB0.out hbw)
 clear hbw m0 m1 m2 m3 n0 n1 c0 c1 c2 c3 c4 hW0
 go_wp2_with (first
  | (refine wpList_store_row rfl 36 (.tmp 6) (.tmp 26) rfl (w.heap.size + 1 + 1 + 1) #[.slice Ao9 RES.1.ops.length co9,.slice Ap9 RES.1.bp.length cp9,.slice Am9 RES.1.bm.length cm9,.slice Aap9 RES.1.ap.length cap9,.slice Aam9 RES.1.am.length cam9] rfl rfl 36 _ HGW.out (by kernel_rfl) (by simp) (by simp [Value.oneCell']) ?_)
  | fail)
 refine bodyPost_ret (v:=.tuple #[.agg #[.slice Ao9 RES.1.ops.length co9,.slice Ap9 RES.1.bp.length cp9,.slice Am9 RES.1.bm.length cm9,.slice Aap9 RES.1.ap.length cap9,.slice Aam9 RES.1.am.length cam9],.int .i64 RES.2]) (zAj Tryz.results27 _ _ _ (w.heap.size + 1 + 1 + 1) 36 _ (0,0) _ rfl (HGW.out.row _) rfl Tryz.underlying36 (by kernel_rfl) _ rfl) rfl ?_
 exact RecB.put (arr:=#[]) HREC.out HGW.out (Kept.setRow _ _ _) (size_setRow _ _ _) HBW.out (by omega)
set_option maxHeartbeats 4000000 in
theorem zPn (t:Tree) (p m:List Int) (s:Int) (items:List Tree) (x:ByteArray) (f:Bool) (A Ap Am An:Option Addr) (cap cp cm cn:Nat) (w:World) (RES:RecD × Int)
  (hC:∀ W,Below w.heap.size w W→Calls Tryz.prog 93 #[.agg #[.int .i64 t.kind,.string t.text,.int .i64 t.cols,.slice A t.kids.length cap],.agg #[.slice Ap p.length cp,.slice Am m.length cm],.bool f] W (RecB W RES)) :
  Calls Tryz.prog 57 #[.agg #[.int .i64 t.kind,.string t.text,.int .i64 t.cols,.slice A t.kids.length cap],.agg #[.slice Ap p.length cp,.slice Am m.length cm],.agg #[.int .i64 1,.slice An items.length cn,.int .i64 s,.string x,.bool f]] w (RecB w RES):=by
 obtain ⟨W0,hW0⟩:∃ W0,(((w.alloc (.cells #[.int .i64 t.kind,.string t.text,.int .i64 t.cols,.slice A t.kids.length cap] 24)).alloc (.cells #[.slice Ap p.length cp,.slice Am m.length cm] 33)).alloc (.cells #[.int .i64 1,.slice An items.length cn,.int .i64 s,.string x,.bool f] 44)).alloc (.cells #[.slice none 0 0,.slice none 0 0,.slice none 0 0,.slice none 0 0,.slice none 0 0] 36) = W0:=⟨_,rfl⟩
 have hb0:Below w.heap.size w W0:=by rw [← hW0];exact zAp (zAp (zAp (blA _ _) _) _) _
 have ho1:zAc W0 w.heap.size (.cells #[.int .i64 t.kind,.string t.text,.int .i64 t.cols,.slice A t.kids.length cap] 24):=by rw [← hW0];exact (((zAc.at0 _ _).al _).al _).al _
 have ho2:zAc W0 (w.heap.size + 1) (.cells #[.slice Ap p.length cp,.slice Am m.length cm] 33):=by rw [← hW0];exact ((zAc.at1 _ _ _).al _).al _
 have ho3:zAc W0 (w.heap.size + 1 + 1) (.cells #[.int .i64 1,.slice An items.length cn,.int .i64 s,.string x,.bool f] 44):=by rw [← hW0];exact (zAc.at2 _ _ _ _).al _
 have HO4:Hid (zAc W0 (w.heap.size + 1 + 1 + 1) (.cells #[.slice none 0 0,.slice none 0 0,.slice none 0 0,.slice none 0 0,.slice none 0 0] 36)):=by show zAc _ _ _;rw [← hW0];exact zAc.new _ _ _ (by simp)
 have HC:=hid (hC W0 hb0)
 have HB0:=hid hb0
 have m0:=ho1.cell 0
 have m1:=ho1.cell 1
 have m2:=ho1.cell 2
 have m3:=ho1.cell 3
 have n0:=ho2.cell 0
 have n1:=ho2.cell 1
 have c0:=ho3.cell 0
 have c1:=ho3.cell 1
 have c2:=ho3.cell 2
 have c3:=ho3.cell 3
 have c4:=ho3.cell 4
 simp only [List.getElem?_toArray,List.getElem?_cons_zero,List.getElem?_cons_succ] at m0 m1 m2 m3 n0 n1 c0 c1 c2 c3 c4
 clear hC hb0 ho1 ho2 ho3
 go_enter Tryz.func57,Tryz.ntmps57
 go_wp2_with fail
 refine HC.out.mono ?_
 intro e wk hrec
 have HREC:=hid hrec
 obtain ⟨Ao9,co9,Ap9,cp9,Am9,cm9,Aap9,cap9,Aam9,cam9,rfl,_,_,_,_,_,hbw⟩:=hrec
 have HGW:=hid (HO4.out.below hbw)
 have HBW:=hid (zAq HB0.out hbw)
 clear hbw m0 m1 m2 m3 n0 n1 c0 c1 c2 c3 c4 hW0
 go_wp2_with (first
  | (refine wpList_store_row rfl 36 (.tmp 6) (.tmp 26) rfl (w.heap.size + 1 + 1 + 1) #[.slice Ao9 RES.1.ops.length co9,.slice Ap9 RES.1.bp.length cp9,.slice Am9 RES.1.bm.length cm9,.slice Aap9 RES.1.ap.length cap9,.slice Aam9 RES.1.am.length cam9] rfl rfl 36 _ HGW.out (by kernel_rfl) (by simp) (by simp [Value.oneCell']) ?_)
  | fail)
 refine bodyPost_ret (v:=.tuple #[.agg #[.slice Ao9 RES.1.ops.length co9,.slice Ap9 RES.1.bp.length cp9,.slice Am9 RES.1.bm.length cm9,.slice Aap9 RES.1.ap.length cap9,.slice Aam9 RES.1.am.length cam9],.int .i64 RES.2]) (zAj Tryz.results57 _ _ _ (w.heap.size + 1 + 1 + 1) 36 _ (0,0) _ rfl (HGW.out.row _) rfl Tryz.underlying36 (by kernel_rfl) _ rfl) rfl ?_
 exact RecB.put (arr:=#[]) HREC.out HGW.out (Kept.setRow _ _ _) (size_setRow _ _ _) HBW.out (by omega)
theorem qP (a:Act) (t:Tmp) (v:Value):a.put (some t) v = { a with tmps:=a.tmps.setIfInBounds t v }:=rfl
theorem qN (a:Act) (v:Value):a.put none v = a:=rfl
theorem qS {α:Type} (l:List α) (i:Nat) (x:α):l.toArray.setIfInBounds i x = (l.set i x).toArray:=by simp
theorem qZ {α:Type} (a x:α) (l:List α):(a :: l).set 0 x = x :: l:=rfl
theorem qC {α:Type} (a x:α) (l:List α) (i:Nat):(a :: l).set (i + 1) x = a :: l.set i x:=rfl
end Go.Proofs.YtbjcioknfjofkaaGreat
