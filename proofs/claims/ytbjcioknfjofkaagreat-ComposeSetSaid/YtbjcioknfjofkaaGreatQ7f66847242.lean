/- Texts put together. -/
import Derived.Test.YtbjcioknfjofkaaGreatQ265f1fa840
import Derived.Test.YtbjcioknfjofkaaGreatQ10e7920990
import Derived.Test.YtbjcioknfjofkaaGreatQ2131ee688f
set_option linter.unusedVariables false
set_option linter.unusedSimpArgs false
set_option maxRecDepth 100000
namespace Go.Proofs.YtbjcioknfjofkaaGreat
open Go.RowKit
set_option maxHeartbeats 4000000 in
theorem run5_any (t:Tree) (p m:List Int) (s:Int) (items:List Tree) (x:ByteArray) (f:Bool) (A Ap Am An:Option Addr) (cap cp cm cn:Nat) (w:World) (RES:RecD × Int)
  (hC:∀ W,Below w.heap.size w W→Calls Tryz.prog 59 #[.agg #[.int .i64 t.kind,.string t.text,.int .i64 t.cols,.slice A t.kids.length cap],.agg #[.slice Ap p.length cp,.slice Am m.length cm],.string x] W (RecB W RES)) :
  Calls Tryz.prog 27 #[.agg #[.int .i64 t.kind,.string t.text,.int .i64 t.cols,.slice A t.kids.length cap],.agg #[.slice Ap p.length cp,.slice Am m.length cm],.agg #[.int .i64 5,.slice An items.length cn,.int .i64 s,.string x,.bool f]] w (RecB w RES):=by
 obtain ⟨W0,hW0⟩:∃ W0,(((w.alloc (.cells #[.int .i64 t.kind,.string t.text,.int .i64 t.cols,.slice A t.kids.length cap] 24)).alloc (.cells #[.slice Ap p.length cp,.slice Am m.length cm] 33)).alloc (.cells #[.int .i64 5,.slice An items.length cn,.int .i64 s,.string x,.bool f] 44)).alloc (.cells #[.slice none 0 0,.slice none 0 0,.slice none 0 0,.slice none 0 0,.slice none 0 0] 36) = W0:=⟨_,rfl⟩
 have hb0:Below w.heap.size w W0:=by rw [← hW0];exact blAlloc (blAlloc (blAlloc (blA _ _) _) _) _
 have ho1:HasObj W0 w.heap.size (.cells #[.int .i64 t.kind,.string t.text,.int .i64 t.cols,.slice A t.kids.length cap] 24):=by rw [← hW0];exact (((HasObj.at0 _ _).al _).al _).al _
 have ho2:HasObj W0 (w.heap.size + 1) (.cells #[.slice Ap p.length cp,.slice Am m.length cm] 33):=by rw [← hW0];exact ((HasObj.at1 _ _ _).al _).al _
 have ho3:HasObj W0 (w.heap.size + 1 + 1) (.cells #[.int .i64 5,.slice An items.length cn,.int .i64 s,.string x,.bool f] 44):=by rw [← hW0];exact (HasObj.at2 _ _ _ _).al _
 have HO4:Hid (HasObj W0 (w.heap.size + 1 + 1 + 1) (.cells #[.slice none 0 0,.slice none 0 0,.slice none 0 0,.slice none 0 0,.slice none 0 0] 36)):=by show HasObj _ _ _;rw [← hW0];exact HasObj.new _ _ _ (by simp)
 have HC:=hid (hC W0 hb0)
 have HB0:=hid hb0
 have m0:=ho1.cell 0
 have m1:=ho1.cell 1
 have m2:=ho1.cell 2
 have m3:=ho1.cell 3
 have n0:=ho2.cell 0
 have n1:=ho2.cell 1
 have c0:=ho3.cell 0
 have c1:=ho3.cell 1
 have c2:=ho3.cell 2
 have c3:=ho3.cell 3
 have c4:=ho3.cell 4
 simp only [List.getElem?_toArray,List.getElem?_cons_zero,List.getElem?_cons_succ] at m0 m1 m2 m3 n0 n1 c0 c1 c2 c3 c4
 clear hC hb0 ho1 ho2 ho3
 go_enter Tryz.func27,Tryz.ntmps27
 go_wp2_with fail
 refine HC.out.mono ?_
 intro e wk hrec
 have HREC:=hid hrec
 obtain ⟨Ao9,co9,Ap9,cp9,Am9,cm9,Aap9,cap9,Aam9,cam9,rfl,_,_,_,_,_,hbw⟩:=hrec
 have HGW:=hid (HO4.out.below hbw)
 have HBW:=hid (blCall HB0.out hbw)
 clear hbw m0 m1 m2 m3 n0 n1 c0 c1 c2 c3 c4 hW0
 go_wp2_with (first
  | (refine wpList_store_row rfl 36 (.tmp 6) (.tmp 61) rfl (w.heap.size + 1 + 1 + 1) #[.slice Ao9 RES.1.ops.length co9,.slice Ap9 RES.1.bp.length cp9,.slice Am9 RES.1.bm.length cm9,.slice Aap9 RES.1.ap.length cap9,.slice Aam9 RES.1.am.length cam9] rfl rfl 36 _ HGW.out (by kernel_rfl) (by simp) (by simp [Value.oneCell']) ?_)
  | fail)
 refine bodyPost_ret (v:=.tuple #[.agg #[.slice Ao9 RES.1.ops.length co9,.slice Ap9 RES.1.bp.length cp9,.slice Am9 RES.1.bm.length cm9,.slice Aap9 RES.1.ap.length cap9,.slice Aam9 RES.1.am.length cam9],.int .i64 RES.2]) (results_row_tmp Tryz.results27 _ _ _ (w.heap.size + 1 + 1 + 1) 36 _ (0,0) _ rfl (HGW.out.row _) rfl Tryz.underlying36 (by kernel_rfl) _ rfl) rfl ?_
 exact RecB.put (arr:=#[]) HREC.out HGW.out (Kept.setRow _ _ _) (size_setRow _ _ _) HBW.out (by omega)
set_option maxHeartbeats 4000000 in
theorem rrun5_any (t:Tree) (p m:List Int) (s:Int) (items:List Tree) (x:ByteArray) (f:Bool) (A Ap Am An:Option Addr) (cap cp cm cn:Nat) (w:World) (RES:RecD × Int)
  (hC:∀ W,Below w.heap.size w W→Calls Tryz.prog 98 #[.agg #[.int .i64 t.kind,.string t.text,.int .i64 t.cols,.slice A t.kids.length cap],.agg #[.slice Ap p.length cp,.slice Am m.length cm],.string x] W (RecB W RES)) :
  Calls Tryz.prog 57 #[.agg #[.int .i64 t.kind,.string t.text,.int .i64 t.cols,.slice A t.kids.length cap],.agg #[.slice Ap p.length cp,.slice Am m.length cm],.agg #[.int .i64 5,.slice An items.length cn,.int .i64 s,.string x,.bool f]] w (RecB w RES):=by
 obtain ⟨W0,hW0⟩:∃ W0,(((w.alloc (.cells #[.int .i64 t.kind,.string t.text,.int .i64 t.cols,.slice A t.kids.length cap] 24)).alloc (.cells #[.slice Ap p.length cp,.slice Am m.length cm] 33)).alloc (.cells #[.int .i64 5,.slice An items.length cn,.int .i64 s,.string x,.bool f] 44)).alloc (.cells #[.slice none 0 0,.slice none 0 0,.slice none 0 0,.slice none 0 0,.slice none 0 0] 36) = W0:=⟨_,rfl⟩
 have hb0:Below w.heap.size w W0:=by rw [← hW0];exact blAlloc (blAlloc (blAlloc (blA _ _) _) _) _
 have ho1:HasObj W0 w.heap.size (.cells #[.int .i64 t.kind,.string t.text,.int .i64 t.cols,.slice A t.kids.length cap] 24):=by rw [← hW0];exact (((HasObj.at0 _ _).al _).al _).al _
 have ho2:HasObj W0 (w.heap.size + 1) (.cells #[.slice Ap p.length cp,.slice Am m.length cm] 33):=by rw [← hW0];exact ((HasObj.at1 _ _ _).al _).al _
 have ho3:HasObj W0 (w.heap.size + 1 + 1) (.cells #[.int .i64 5,.slice An items.length cn,.int .i64 s,.string x,.bool f] 44):=by rw [← hW0];exact (HasObj.at2 _ _ _ _).al _
 have HO4:Hid (HasObj W0 (w.heap.size + 1 + 1 + 1) (.cells #[.slice none 0 0,.slice none 0 0,.slice none 0 0,.slice none 0 0,.slice none 0 0] 36)):=by show HasObj _ _ _;rw [← hW0];exact HasObj.new _ _ _ (by simp)
 have HC:=hid (hC W0 hb0)
 have HB0:=hid hb0
 have m0:=ho1.cell 0
 have m1:=ho1.cell 1
 have m2:=ho1.cell 2
 have m3:=ho1.cell 3
 have n0:=ho2.cell 0
 have n1:=ho2.cell 1
 have c0:=ho3.cell 0
 have c1:=ho3.cell 1
 have c2:=ho3.cell 2
 have c3:=ho3.cell 3
 have c4:=ho3.cell 4
 simp only [List.getElem?_toArray,List.getElem?_cons_zero,List.getElem?_cons_succ] at m0 m1 m2 m3 n0 n1 c0 c1 c2 c3 c4
 clear hC hb0 ho1 ho2 ho3
 go_enter Tryz.func57,Tryz.ntmps57
 go_wp2_with fail
 refine HC.out.mono ?_
 intro e wk hrec
 have HREC:=hid hrec
 obtain ⟨Ao9,co9,Ap9,cp9,Am9,cm9,Aap9,cap9,Aam9,cam9,rfl,_,_,_,_,_,hbw⟩:=hrec
 have HGW:=hid (HO4.out.below hbw)
 have HBW:=hid (blCall HB0.out hbw)
 clear hbw m0 m1 m2 m3 n0 n1 c0 c1 c2 c3 c4 hW0
 go_wp2_with (first
  | (refine wpList_store_row rfl 36 (.tmp 6) (.tmp 61) rfl (w.heap.size + 1 + 1 + 1) #[.slice Ao9 RES.1.ops.length co9,.slice Ap9 RES.1.bp.length cp9,.slice Am9 RES.1.bm.length cm9,.slice Aap9 RES.1.ap.length cap9,.slice Aam9 RES.1.am.length cam9] rfl rfl 36 _ HGW.out (by kernel_rfl) (by simp) (by simp [Value.oneCell']) ?_)
  | fail)
 refine bodyPost_ret (v:=.tuple #[.agg #[.slice Ao9 RES.1.ops.length co9,.slice Ap9 RES.1.bp.length cp9,.slice Am9 RES.1.bm.length cm9,.slice Aap9 RES.1.ap.length cap9,.slice Aam9 RES.1.am.length cam9],.int .i64 RES.2]) (results_row_tmp Tryz.results57 _ _ _ (w.heap.size + 1 + 1 + 1) 36 _ (0,0) _ rfl (HGW.out.row _) rfl Tryz.underlying36 (by kernel_rfl) _ rfl) rfl ?_
 exact RecB.put (arr:=#[]) HREC.out HGW.out (Kept.setRow _ _ _) (size_setRow _ _ _) HBW.out (by omega)
theorem set_cases (t:Tree) (p m:List Int) (text:ByteArray):((ofS t p m).2≠0→setS t p m text = (recZ,(ofS t p m).2)) ∧
  (∀ rr ra rb q o its,ofS t p m = ((rr,ra,rb),0)→p = q ++ [o]→its = (rowRes t q).1.kids→(o = 0→setS t p m text = (recZ,8)) ∧
   ∀ (k:Nat) (hk:k < its.length),o = (k:Int) + 1→(textKind its[k].kind = true∧its[k].text≠text→setS t p m text = doneR t p m [setOp q (k:Int) its[k].text text] p m)∧(¬ (textKind its[k].kind = true∧its[k].text≠text)→setS t p m text = (recZ,7))):=by
 refine ⟨fun h=>by unfold setS;rw [if_pos h],fun rr ra rb q o its h hpe hie=>⟨fun h0=>?_,fun k hk ho=>?_⟩⟩
 ·unfold setS
  rw [h,if_neg (by simp),if_pos (by rw [hpe,h0];simp)]
 ·obtain ⟨hv,hp,_,_⟩:=of_ok (t:=t) (p:=p) (m:=m) (by rw [h])
  have hpo:=hp
  rw [hpe] at hpo
  obtain ⟨hf,_,_⟩:=pos_last hpo
  have hrow:=rowRes_ok hv hf
  have hi:its = (findS t q).1.kids:=by rw [hie,hrow]
  have e1:p.dropLast = q:=by rw [hpe];simp
  have e2:p.getLastD 0 = o:=by rw [hpe];simp
  have e3:(itemRes t q (o - 1)).1 = its[k]:=by
   unfold itemRes
   rw [hrow,if_neg (by simp),if_neg (by simp only;rw [← hi];omega)]
   simp only
   rw [← hi,show (o - 1).toNat = k by omega]
   simp [itemD,hk]
  have e4:o - 1 = (k:Int):=by omega
  obtain ⟨op,hop⟩:∃ op,setOp q (k:Int) its[k].text text = op:=⟨_,rfl⟩
  have hS:setS t p m text = if (applyS t op).2 = 4∨(applyS t op).2 = 7 then (recZ,7) else if (applyAllS t [op]).2 = 0 then (⟨[op],p,m,p,m⟩,0) else (recZ,6):=by
   unfold setS
   rw [h,if_neg (by simp),e1,e2,if_neg (by omega),e4,← hop]
   rw [← e3,e4]
  have hform:formedS op = !(its[k].text.toList == text.toList):=by
   rw [← hop]
   unfold formedS setOp
   simp
  have hchg:changeS its op = if textKind its[k].kind = true then (spliceS its k (k + 1) [.mk its[k].kind text its[k].cols its[k].kids],0) else ([],7):=by
   rw [← hop]
   unfold changeS setOp needS
   simp only
   have hg:its.getD ((k:Int).toNat) zeroT = its[k]:=by rw [Int.toNat_natCast,List.getD_eq_getElem?_getD,List.getElem?_eq_getElem hk];rfl
   rw [if_neg (by simp;omega),if_neg (by simp),if_neg (by simp),if_neg (by simp),if_neg (by simp),hg]
   have e5:(its[k].text.toList == its[k].text.toList) = true:=by simp
   rw [e5]
   by_cases hkk:textKind its[k].kind = true
   ·rw [if_pos ⟨hkk,rfl⟩,if_pos hkk,show ((k:Int) + 1).toNat = k + 1 by omega,Int.toNat_natCast]
   ·rw [if_neg (fun h=>hkk h.1),if_neg hkk]
  have hor:op.row = q:=by rw [← hop];rfl
  have hA:applyS t op = if formedS op = false then (zeroT,4) else if (changeS its op).2≠0 then (zeroT,(changeS its op).2) else if validS (putS t q (changeS its op).1) = false then (zeroT,6) else (putS t q (changeS its op).1,0):=by
   unfold applyS
   rw [if_neg (by simp [hv]),hor,hrow]
   simp only
   rw [← hi]
   simp
  refine ⟨fun hc=>?_,fun hc=>?_⟩
  ·have hne:(its[k].text.toList == text.toList) = false:=by
    rw [beq_eq_false_iff_ne]
    intro e
    exact hc.2 (toList_inj.1 e)
   rw [hS,if_neg,hop]
   ·rfl
   ·rw [hA,hform,hne,if_neg (by simp),hchg,if_pos hc.1]
    simp only
    rw [if_neg (by simp)]
    split <;> simp
  ·rw [hS,if_pos]
   rw [hA]
   by_cases he:its[k].text = text
   ·rw [hform,he]
    simp
   ·have hkk:¬ textKind its[k].kind = true:=fun h=>hc ⟨h,he⟩
    have hne:(its[k].text.toList == text.toList) = false:=by
     rw [beq_eq_false_iff_ne]
     intro e
     exact he (toList_inj.1 e)
    rw [hform,hne,if_neg (by simp),hchg,if_neg hkk,if_pos (by simp)]
    exact .inr rfl
end Go.Proofs.YtbjcioknfjofkaaGreat
