/- Texts put together. -/
import Derived.Test.YtbjcioknfjofkaaGreatQ3f303cb078
import Derived.Test.YtbjcioknfjofkaaGreatQ94e38f2e3a
import Derived.Test.YtbjcioknfjofkaaGreatQ9fbf350ee7
import Derived.Test.YtbjcioknfjofkaaGreatQ2b521730f7
import Derived.Test.YtbjcioknfjofkaaGreatQ026c71ee64
set_option linter.unusedVariables false
set_option linter.unusedSimpArgs false
set_option maxRecDepth 100000
namespace Go.Proofs.YtbjcioknfjofkaaGreat
open Go.RowKit
set_option maxHeartbeats 2000000 in
theorem wrap_walk (t:Tree) (p m:List Int) (k0 s:Int) (items:List Tree) (x:ByteArray) (f:Bool) (A Ap Am An:Option Addr) (cap cp cm cn:Nat) (w:World) (hv:TreesS w (Lt w.heap.size) t.kids (.slice A t.kids.length cap)) (hok:NodeOk t) (hp:IntsR w (Lt w.heap.size) p (.slice Ap p.length cp)) (hm:IntsR w (Lt w.heap.size) m (.slice Am m.length cm)) (hi:SliceR treeE w (Lt w.heap.size) items (.slice An items.length cn)) (hs:In64 s) (hx:x.size≤maxLen) :
  Calls Tryz.prog 8 #[.agg #[.int .i64 t.kind,.string t.text,.int .i64 t.cols,.slice A t.kids.length cap],.agg #[.slice Ap p.length cp,.slice Am m.length cm],.agg #[.int .i64 k0,.slice An items.length cn,.int .i64 s,.string x,.bool f]] w fun e w'=>e = .returned (.bool true)∧Below w.heap.size w w':=by
 obtain ⟨W0,hW0⟩:∃ W0,((w.alloc (.cells #[.int .i64 t.kind,.string t.text,.int .i64 t.cols,.slice A t.kids.length cap] 24)).alloc (.cells #[.slice Ap p.length cp,.slice Am m.length cm] 33)).alloc (.cells #[.int .i64 k0,.slice An items.length cn,.int .i64 s,.string x,.bool f] 44) = W0:=⟨_,rfl⟩
 have hb0:Below w.heap.size w W0:=by rw [← hW0];exact blAlloc (blAlloc (blA _ _) _) _
 have ho1:HasObj W0 w.heap.size (.cells #[.int .i64 t.kind,.string t.text,.int .i64 t.cols,.slice A t.kids.length cap] 24):=by rw [← hW0];exact ((HasObj.at0 _ _).al _).al _
 have ho2:HasObj W0 (w.heap.size + 1) (.cells #[.slice Ap p.length cp,.slice Am m.length cm] 33):=by rw [← hW0];exact (HasObj.at1 _ _ _).al _
 have ho3:HasObj W0 (w.heap.size + 1 + 1) (.cells #[.int .i64 k0,.slice An items.length cn,.int .i64 s,.string x,.bool f] 44):=by rw [← hW0];exact HasObj.at2 _ _ _ _
 have c0:W0.cell? ⟨w.heap.size + 1 + 1,0,none⟩ = some (.int .i64 k0):=ho3.cell 0
 have f0:W0.frozen? ⟨w.heap.size + 1 + 1,0,none⟩ = false:=ho3.free 0
 obtain ⟨W1,hW1⟩:∃ W1,W0.setCell ⟨w.heap.size + 1 + 1,0,none⟩ (.int .i64 2) = W1:=⟨_,rfl⟩
 have hk:Kept (fun k=>k = w.heap.size + 1 + 1) W0 W1:=by rw [← hW1];exact Kept.set W0 ⟨w.heap.size + 1 + 1,0,none⟩ _
 have hb1:Below w.heap.size w W1:=hb0.trans (hk.below hb0.size (fun k e=>by rw [e];omega))
 have hp1:HasObj W1 w.heap.size (.cells #[.int .i64 t.kind,.string t.text,.int .i64 t.cols,.slice A t.kids.length cap] 24):=hk.obj ho1 (by omega)
 have hp2:HasObj W1 (w.heap.size + 1) (.cells #[.slice Ap p.length cp,.slice Am m.length cm] 33):=hk.obj ho2 (by omega)
 have hp3:HasObj W1 (w.heap.size + 1 + 1) (.cells #[.int .i64 2,.slice An items.length cn,.int .i64 s,.string x,.bool f] 44):=by rw [← hW1];exact ho3.set (i:=0) _
 have CA:Hid (Calls Tryz.prog 26 #[.agg #[.int .i64 t.kind,.string t.text,.int .i64 t.cols,.slice A t.kids.length cap],.agg #[.slice Ap p.length cp,.slice Am m.length cm],.agg #[.int .i64 2,.slice An items.length cn,.int .i64 s,.string x,.bool f]] W1 fun e w'=>e = .returned (.bool true)∧Below W1.heap.size W1 w'):=by
  refine agrees_any t p m 2 s items x f A Ap Am An cap cp cm cn W1 (cwrapS t p m (items.headD zeroT) s) (hv.below hb1 hb1.size) (hi.below hb1 hb1.size) hx (fun hf W hW=>?_) (fun hf W hW=>?_)
  ·obtain ⟨h1,h2,h3,h4,h5⟩:=few14_bd hf
   have hcl:=head_count items
   have hw:=hb1.trans (hW.mono hb1.size)
   refine run2_any t p m s items x f A Ap Am An cap cp cm cn W _ (hi.below hw hw.size) (fun W' B b hW9 hk9=>?_)
   have hW':=hw.trans (hW9.mono hw.size)
   exact (cWrap_any t p m (items.headD zeroT) s A Ap Am B cap cp cm b W' (hv.below hW' hW'.size) hok (by omega) (hp.below hW' hW'.size) (hm.below hW' hW'.size) (by omega) (by omega) hk9 (head_ok hi) hs).mono fun _ _ h=>h.weak
  ·obtain ⟨h1,h2,h3,h4,h5⟩:=few14_bd hf
   have hcl:=head_count items
   have hw:=hb1.trans (hW.mono hb1.size)
   refine rrun2_any t p m s items x f A Ap Am An cap cp cm cn W _ (hi.below hw hw.size) (fun W' B b hW9 hk9=>?_)
   have hW':=hw.trans (hW9.mono hw.size)
   exact r14Wrap_any t p m (items.headD zeroT) s A Ap Am B cap cp cm b W' (hv.below hW' hW'.size) hok (by omega) (hp.below hW' hW'.size) (hm.below hW' hW'.size) (by omega) (by omega) hk9 (head_ok hi) (by omega) hs
 have HB1:=hid hb1
 have KC:Hid (W1.cell? ⟨w.heap.size,0,none⟩ = some (.int .i64 t.kind)∧W1.cell? ⟨w.heap.size,1,none⟩ = some (.string t.text)∧W1.cell? ⟨w.heap.size,2,none⟩ = some (.int .i64 t.cols)∧W1.cell? ⟨w.heap.size,3,none⟩ = some (.slice A t.kids.length cap)∧W1.cell? ⟨w.heap.size + 1,0,none⟩ = some (.slice Ap p.length cp)∧W1.cell? ⟨w.heap.size + 1,1,none⟩ = some (.slice Am m.length cm)∧W1.cell? ⟨w.heap.size + 1 + 1,0,none⟩ = some (.int .i64 2)∧W1.cell? ⟨w.heap.size + 1 + 1,1,none⟩ = some (.slice An items.length cn)∧W1.cell? ⟨w.heap.size + 1 + 1,2,none⟩ = some (.int .i64 s)∧W1.cell? ⟨w.heap.size + 1 + 1,3,none⟩ = some (.string x)∧W1.cell? ⟨w.heap.size + 1 + 1,4,none⟩ = some (.bool f)):=⟨hp1.cell 0,hp1.cell 1,hp1.cell 2,hp1.cell 3,hp2.cell 0,hp2.cell 1,hp3.cell 0,hp3.cell 1,hp3.cell 2,hp3.cell 3,hp3.cell 4⟩
 clear hv hok hp hm hi hs hx hb0 ho1 ho2 ho3 hb1 hp1 hp2 hp3 hk
 go_enter Tryz.func8,Tryz.ntmps8
 go_upto_region 1 with fail
 try rw [hW0]
 clear hW0
 go_upto_region 2 with fail
 try rw [hW1]
 clear hW1 c0 f0
 obtain ⟨m0,m1,m2,m3,n0,n1,e0,e1,e2,e3,e4⟩:=KC.out
 go_wp2_with fail
 refine CA.out.mono ?_
 rintro e w1 ⟨rfl,hb1⟩
 have HK:=hid (blCall HB1.out hb1)
 clear hb1 m0 m1 m2 m3 n0 n1 e0 e1 e2 e3 e4
 go_wp2_with fail
 go_ret
 exact ⟨rfl,HK.out⟩
end Go.Proofs.YtbjcioknfjofkaaGreat
