/- Texts put together. -/
import Derived.Test.YtbjcioknfjofkaaGreatQc8923710c2
import Derived.Test.YtbjcioknfjofkaaGreatQb4f87ba2e9
import Derived.Test.YtbjcioknfjofkaaGreatQcc5716f5ff
import Derived.Test.YtbjcioknfjofkaaGreatQ4408dc940c
set_option linter.unusedVariables false
set_option linter.unusedSimpArgs false
set_option maxRecDepth 100000
namespace Go.Proofs.YtbjcioknfjofkaaGreat
open Go.RowKit
set_option maxHeartbeats 2000000 in
theorem era_walk (t:Tree) (p m:List Int) (back:Bool) (A Ap Am:Option Addr) (cap cp cm:Nat) (w:World) (hv:zOc w (Lt w.heap.size) t.kids (.slice A t.kids.length cap)) (hok:zAu t) (hp:zAh w (Lt w.heap.size) p (.slice Ap p.length cp)) (hm:zAh w (Lt w.heap.size) m (.slice Am m.length cm))  :
  Calls Tryz.prog 7 #[.agg #[.int .i64 t.kind,.string t.text,.int .i64 t.cols,.slice A t.kids.length cap],.agg #[.slice Ap p.length cp,.slice Am m.length cm],.bool back] w fun e w'=>e = .returned (.bool true)∧Below w.heap.size w w':=by
 obtain ⟨W0,hW0⟩:∃ W0,(w.alloc (.cells #[.int .i64 t.kind,.string t.text,.int .i64 t.cols,.slice A t.kids.length cap] 24)).alloc (.cells #[.slice Ap p.length cp,.slice Am m.length cm] 33) = W0:=⟨_,rfl⟩
 have hb0:Below w.heap.size w W0:=by rw [← hW0];exact zAp (blA _ _) _
 have ho1:zAc W0 w.heap.size (.cells #[.int .i64 t.kind,.string t.text,.int .i64 t.cols,.slice A t.kids.length cap] 24):=by rw [← hW0];exact (zAc.at0 _ _).al _
 have ho2:zAc W0 (w.heap.size + 1) (.cells #[.slice Ap p.length cp,.slice Am m.length cm] 33):=by rw [← hW0];exact zAc.at1 _ _ _
 have CA:Hid (Calls Tryz.prog 26 #[.agg #[.int .i64 t.kind,.string t.text,.int .i64 t.cols,.slice A t.kids.length cap],.agg #[.slice Ap p.length cp,.slice Am m.length cm],.agg #[.int .i64 1,.slice none 0 0,.int .i64 0,.string ⟨#[]⟩,.bool back]] W0 fun e w'=>e = .returned (.bool true)∧Below W0.heap.size W0 w'):=by
  have hW0':=hb0
  refine zPa t p m 1 0 [] ⟨#[]⟩ back A Ap Am none cap cp cm 0 W0 (zD3 t p m back) (hv.below hb0 hb0.size) ((zAa.nil_ 0 (Nat.zero_le _) none)) (Nat.zero_le _) (fun hf W hW=>?_) (fun hf W hW=>?_)
  ·obtain ⟨h1,h2,h3,h4,h5⟩:=zN6 hf
   refine run1_any t p m 0 [] ⟨#[]⟩ back A Ap Am none cap cp cm 0 W _ (fun W' hW9=>?_)
   have hW':=hb0.trans ((hW.trans (hW9.mono hW.size)).mono hb0.size)
   exact (zJx t p m A Ap Am cap cp cm back W' (hv.below hW' hW'.size) hok (by omega) (hp.below hW' hW'.size) (hm.below hW' hW'.size) (by omega) (by omega)).mono fun _ _ h=>h.weak
  ·obtain ⟨h1,h2,h3,h4,h5⟩:=zN6 hf
   refine zPn t p m 0 [] ⟨#[]⟩ back A Ap Am none cap cp cm 0 W _ (fun W' hW9=>?_)
   have hW':=hb0.trans ((hW.trans (hW9.mono hW.size)).mono hb0.size)
   exact (zLc t p m A Ap Am cap cp cm back W' (hv.below hW' hW'.size) hok (by omega) (hp.below hW' hW'.size) (hm.below hW' hW'.size) (by omega) (by omega))
 have HB0:=hid hb0
 have m0:=ho1.cell 0
 have m1:=ho1.cell 1
 have m2:=ho1.cell 2
 have m3:=ho1.cell 3
 have n0:=ho2.cell 0
 have n1:=ho2.cell 1
 simp only [List.getElem?_toArray,List.getElem?_cons_zero,List.getElem?_cons_succ] at m0 m1 m2 m3 n0 n1
 clear hv hok hp hm hb0 ho1 ho2
 go_enter Tryz.func7,Tryz.ntmps7
 go_wp2_with fail
 refine CA.out.mono ?_
 rintro e w1 ⟨rfl,hb1⟩
 have HK:=hid (zAq HB0.out hb1)
 clear hb1 m0 m1 m2 m3 n0 n1 hW0
 go_wp2_with fail
 go_ret
 exact ⟨rfl,HK.out⟩
end Go.Proofs.YtbjcioknfjofkaaGreat
