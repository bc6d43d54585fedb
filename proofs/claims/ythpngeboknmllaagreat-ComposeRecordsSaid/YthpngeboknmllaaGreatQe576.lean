/- T -/
import Derived.Test.YthpngeboknmllaaGreatQ24ea
set_option linter.unusedVariables false
set_option linter.unusedSimpArgs false
set_option maxHeartbeats 4000000
set_option maxRecDepth 100000
namespace Go.Proofs.YthpngeboknmllaaGreat
open Go.RowKit
theorem Vm (t:Z9) (p m:List Int) (s:Int) (items:List Z9) (x:ByteArray) (f:Bool) (A Ap Am An:Option Addr) (cap cp cm cn:Nat) (w:World) (aa:Ze×Int)
  (hC:∀W,Below w.heap.size w W->Calls Tryz.prog 17 #[.agg #[.int .i64 t.kind,.string t.text,.int .i64 t.cols,.slice A t.kids.length cap],.agg #[.slice Ap p.length cp,.slice Am m.length cm],.bool f] W (Zh W aa)) :
  Calls Tryz.prog 8 #[.agg #[.int .i64 t.kind,.string t.text,.int .i64 t.cols,.slice A t.kids.length cap],.agg #[.slice Ap p.length cp,.slice Am m.length cm],.agg #[.int .i64 1,.slice An items.length cn,.int .i64 s,.string x,.bool f]] w (Zh w aa):=by
 obtain⟨W0,af⟩:∃W0,(((w.alloc (.cells #[.int .i64 t.kind,.string t.text,.int .i64 t.cols,.slice A t.kids.length cap] 24)).alloc (.cells #[.slice Ap p.length cp,.slice Am m.length cm] 27)).alloc (.cells #[.int .i64 1,.slice An items.length cn,.int .i64 s,.string x,.bool f] 30)).alloc (.cells #[.slice none 0 0,.slice none 0 0,.slice none 0 0,.slice none 0 0,.slice none 0 0] 35)=W0:=⟨_,rfl⟩;have az:Below w.heap.size w W0:=by rw[<-af];exact Zy (Zy (Zy (ZW _ _) _) _) _
 have ah:Z5 W0 w.heap.size (.cells #[.int .i64 t.kind,.string t.text,.int .i64 t.cols,.slice A t.kids.length cap] 24):=by rw[<-af];exact(((Z5.at0 _ _).al _).al _).al _
 have ax:Z5 W0 (w.heap.size+1) (.cells #[.slice Ap p.length cp,.slice Am m.length cm] 27):=by rw[<-af];exact((Z5.at1 _ _ _).al _).al _
 have ae:Z5 W0 (w.heap.size+1+1) (.cells #[.int .i64 1,.slice An items.length cn,.int .i64 s,.string x,.bool f] 30):=by rw[<-af];exact(Z5.at2 _ _ _ _).al _
 have aJ:Hid (Z5 W0 (w.heap.size+1+1+1) (.cells #[.slice none 0 0,.slice none 0 0,.slice none 0 0,.slice none 0 0,.slice none 0 0] 35)):=by show Z5 _ _ _;rw[<-af];exact Z5.new _ _ _ (by simp)
 have HC:=hid (hC W0 az);have aL:=hid az;have m0:=ah.cell 0;have m1:=ah.cell 1;have m2:=ah.cell 2;have m3:=ah.cell 3;have n0:=ax.cell 0;have n1:=ax.cell 1;have c0:=ae.cell 0;have c1:=ae.cell 1;have c2:=ae.cell 2;have c3:=ae.cell 3;have c4:=ae.cell 4;simp only[List.getElem?_toArray,List.getElem?_cons_zero,List.getElem?_cons_succ] at m0 m1 m2 m3 n0 n1 c0 c1 c2 c3 c4;clear hC az ah ax ae;go_enter Tryz.func8,Tryz.ntmps8
 go_wp2_with fail
 refine HC.out.mono ?_;intro e wk ag;have aA:=hid ag;obtain⟨aH,aD,aG,aC,aI,aF,au,aj,av,ak,rfl,_,_,_,_,_,ay⟩:=ag;have aB:=hid (aJ.out.below ay);have aK:=hid (Zo aL.out ay);clear ay m0 m1 m2 m3 n0 n1 c0 c1 c2 c3 c4 af
 go_wp2_with (first
  |(refine wpList_store_row rfl 35 (.tmp 6) (.tmp 26) rfl (w.heap.size+1+1+1) #[.slice aH aa.1.ops.length aD,.slice aG aa.1.bp.length aC,.slice aI aa.1.bm.length aF,.slice au aa.1.ap.length aj,.slice av aa.1.am.length ak] rfl rfl 35 _ aB.out (by kernel_rfl) (by simp) (by simp[Value.oneCell']) ?_)
  |fail)
 refine bodyPost_ret (v:=.tuple #[.agg #[.slice aH aa.1.ops.length aD,.slice aG aa.1.bp.length aC,.slice aI aa.1.bm.length aF,.slice au aa.1.ap.length aj,.slice av aa.1.am.length ak],.int .i64 aa.2]) (Y1 Tryz.results8 _ _ _ (w.heap.size+1+1+1) 35 _ (0,0) _ rfl (aB.out.row _) rfl Tryz.underlying35 (by kernel_rfl) _ rfl) rfl ?_;exact Zh.put (arr:=#[]) aA.out aB.out (ZY.setRow _ _ _) (size_setRow _ _ _) aK.out (by omega)
theorem Vr (t:Z9) (p m:List Int) (s:Int) (items:List Z9) (x:ByteArray) (f:Bool) (A Ap Am An:Option Addr) (cap cp cm cn:Nat) (w:World) (aa:Ze×Int)
  (hC:∀W,Below w.heap.size w W->Calls Tryz.prog 27 #[.agg #[.int .i64 t.kind,.string t.text,.int .i64 t.cols,.slice A t.kids.length cap],.agg #[.slice Ap p.length cp,.slice Am m.length cm],.bool f] W (Zh W aa)) :
  Calls Tryz.prog 8 #[.agg #[.int .i64 t.kind,.string t.text,.int .i64 t.cols,.slice A t.kids.length cap],.agg #[.slice Ap p.length cp,.slice Am m.length cm],.agg #[.int .i64 6,.slice An items.length cn,.int .i64 s,.string x,.bool f]] w (Zh w aa):=by
 obtain⟨W0,af⟩:∃W0,(((w.alloc (.cells #[.int .i64 t.kind,.string t.text,.int .i64 t.cols,.slice A t.kids.length cap] 24)).alloc (.cells #[.slice Ap p.length cp,.slice Am m.length cm] 27)).alloc (.cells #[.int .i64 6,.slice An items.length cn,.int .i64 s,.string x,.bool f] 30)).alloc (.cells #[.slice none 0 0,.slice none 0 0,.slice none 0 0,.slice none 0 0,.slice none 0 0] 35)=W0:=⟨_,rfl⟩;have az:Below w.heap.size w W0:=by rw[<-af];exact Zy (Zy (Zy (ZW _ _) _) _) _
 have ah:Z5 W0 w.heap.size (.cells #[.int .i64 t.kind,.string t.text,.int .i64 t.cols,.slice A t.kids.length cap] 24):=by rw[<-af];exact(((Z5.at0 _ _).al _).al _).al _
 have ax:Z5 W0 (w.heap.size+1) (.cells #[.slice Ap p.length cp,.slice Am m.length cm] 27):=by rw[<-af];exact((Z5.at1 _ _ _).al _).al _
 have ae:Z5 W0 (w.heap.size+1+1) (.cells #[.int .i64 6,.slice An items.length cn,.int .i64 s,.string x,.bool f] 30):=by rw[<-af];exact(Z5.at2 _ _ _ _).al _
 have aJ:Hid (Z5 W0 (w.heap.size+1+1+1) (.cells #[.slice none 0 0,.slice none 0 0,.slice none 0 0,.slice none 0 0,.slice none 0 0] 35)):=by show Z5 _ _ _;rw[<-af];exact Z5.new _ _ _ (by simp)
 have HC:=hid (hC W0 az);have aL:=hid az;have m0:=ah.cell 0;have m1:=ah.cell 1;have m2:=ah.cell 2;have m3:=ah.cell 3;have n0:=ax.cell 0;have n1:=ax.cell 1;have c0:=ae.cell 0;have c1:=ae.cell 1;have c2:=ae.cell 2;have c3:=ae.cell 3;have c4:=ae.cell 4;simp only[List.getElem?_toArray,List.getElem?_cons_zero,List.getElem?_cons_succ] at m0 m1 m2 m3 n0 n1 c0 c1 c2 c3 c4;clear hC az ah ax ae;go_enter Tryz.func8,Tryz.ntmps8
 go_wp2_with fail
 refine HC.out.mono ?_;intro e wk ag;have aA:=hid ag;obtain⟨aH,aD,aG,aC,aI,aF,au,aj,av,ak,rfl,_,_,_,_,_,ay⟩:=ag;have aB:=hid (aJ.out.below ay);have aK:=hid (Zo aL.out ay);clear ay m0 m1 m2 m3 n0 n1 c0 c1 c2 c3 c4 af
 go_wp2_with (first
  |(refine wpList_store_row rfl 35 (.tmp 6) (.tmp 70) rfl (w.heap.size+1+1+1) #[.slice aH aa.1.ops.length aD,.slice aG aa.1.bp.length aC,.slice aI aa.1.bm.length aF,.slice au aa.1.ap.length aj,.slice av aa.1.am.length ak] rfl rfl 35 _ aB.out (by kernel_rfl) (by simp) (by simp[Value.oneCell']) ?_)
  |fail)
 refine bodyPost_ret (v:=.tuple #[.agg #[.slice aH aa.1.ops.length aD,.slice aG aa.1.bp.length aC,.slice aI aa.1.bm.length aF,.slice au aa.1.ap.length aj,.slice av aa.1.am.length ak],.int .i64 aa.2]) (Y1 Tryz.results8 _ _ _ (w.heap.size+1+1+1) 35 _ (0,0) _ rfl (aB.out.row _) rfl Tryz.underlying35 (by kernel_rfl) _ rfl) rfl ?_;exact Zh.put (arr:=#[]) aA.out aB.out (ZY.setRow _ _ _) (size_setRow _ _ _) aK.out (by omega)
