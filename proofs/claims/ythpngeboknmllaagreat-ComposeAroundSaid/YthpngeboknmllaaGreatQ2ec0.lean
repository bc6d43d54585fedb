/- T -/
import Derived.Test.YthpngeboknmllaaGreatQ7b89
import Derived.Test.YthpngeboknmllaaGreatQ5849
import Derived.Test.YthpngeboknmllaaGreatQ42dc
set_option linter.unusedVariables false
set_option linter.unusedSimpArgs false
set_option maxHeartbeats 4000000
set_option maxRecDepth 100000
namespace Go.Proofs.YthpngeboknmllaaGreat
open Go.RowKit
theorem zWf (t:Z9) (p m:List Int) (columns:Bool) (A Ap Am:Option Addr) (cap cp cm:Nat) (w:World) (hv:zOc w (Lt w.heap.size) t.kids (.slice A t.kids.length cap)) (ah:Zt t) (hp:Z0 w (Lt w.heap.size) p (.slice Ap p.length cp)) (hm:Z0 w (Lt w.heap.size) m (.slice Am m.length cm)) :
  Calls Tryz.prog 3 #[.agg #[.int .i64 t.kind,.string t.text,.int .i64 t.cols,.slice A t.kids.length cap],.agg #[.slice Ap p.length cp,.slice Am m.length cm],.bool columns] w fun e w'=>e=.returned (.bool true)/\Below w.heap.size w w':=by
 obtain⟨W0,ai⟩:∃W0,(w.alloc (.cells #[.int .i64 t.kind,.string t.text,.int .i64 t.cols,.slice A t.kids.length cap] 24)).alloc (.cells #[.slice Ap p.length cp,.slice Am m.length cm] 27)=W0:=⟨_,rfl⟩;have ae:Below w.heap.size w W0:=by rw[<-ai];exact Zq (ZX _ _) _
 have ak:Z5 W0 w.heap.size (.cells #[.int .i64 t.kind,.string t.text,.int .i64 t.cols,.slice A t.kids.length cap] 24):=by rw[<-ai];exact(Z5.at0 _ _).al _
 have aj:Z5 W0 (w.heap.size+1) (.cells #[.slice Ap p.length cp,.slice Am m.length cm] 27):=by rw[<-ai];exact Z5.at1 _ _ _
 have KB:Hid (∀W,Below W0.heap.size W0 W->(W.cell? ⟨w.heap.size,0,none⟩=some (.int .i64 t.kind)/\W.cell? ⟨w.heap.size,1,none⟩=some (.string t.text)/\W.cell? ⟨w.heap.size,2,none⟩=some (.int .i64 t.cols)/\W.cell? ⟨w.heap.size,3,none⟩=some (.slice A t.kids.length cap)/\W.cell? ⟨w.heap.size+1,0,none⟩=some (.slice Ap p.length cp)/\W.cell? ⟨w.heap.size+1,1,none⟩=some (.slice Am m.length cm))/\Below w.heap.size w W):=fun W hW=>by
  have h1:=ak.below hW;have h2:=aj.below hW;exact⟨⟨h1.cell 0,h1.cell 1,h1.cell 2,h1.cell 3,h2.cell 0,h2.cell 1⟩,ae.trans (hW.mono ae.size)⟩
 have aA:Hid (∀W,Below w.heap.size w W->Calls Tryz.prog 5 #[.agg #[.int .i64 t.kind,.string t.text,.int .i64 t.cols,.slice A t.kids.length cap],.agg #[.slice Ap p.length cp,.slice Am m.length cm],.agg #[.int .i64 3,.slice none 0 0,.int .i64 0,.string ⟨#[]⟩,.bool false]] W fun e w'=>e=.returned (.bool true)/\Below W.heap.size W w'):=fun W0 ae=>by
  refine zPa t p m 3 0 [] ⟨#[]⟩ false A Ap Am none cap cp cm 0 W0 (Xd t p m) (hv.below ae ae.size) ((Z8.nil_ 0 (QU _) none)) (QU _) (fun hf W hW=>?_) (fun hf W hW=>?_)
  ·obtain⟨h1,h2,h3,h4,h5⟩:=R7 hf;refine VV t p m 0 [] ⟨#[]⟩ false A Ap Am none cap cp cm 0 W _ (fun W' af=>?_);have aa:=ae.trans ((hW.trans (af.mono hW.size)).mono ae.size);exact(zTy t p m A Ap Am cap cp cm W' (hv.below aa aa.size) ah (by omega) (hp.below aa aa.size) (hm.below aa aa.size) (by omega) (by omega)).mono fun _ _ h=>h.weak
  obtain⟨h1,h2,h3,h4,h5⟩:=R7 hf;refine zWr t p m 0 [] ⟨#[]⟩ false A Ap Am none cap cp cm 0 W _ (fun W' af=>?_);have aa:=ae.trans ((hW.trans (af.mono hW.size)).mono ae.size);exact(zV7 t p m A Ap Am cap cp cm W' (hv.below aa aa.size) ah (by omega) (hp.below aa aa.size) (hm.below aa aa.size) (by omega) (by omega))
 have az:Hid (∀W,Below w.heap.size w W->Calls Tryz.prog 5 #[.agg #[.int .i64 t.kind,.string t.text,.int .i64 t.cols,.slice A t.kids.length cap],.agg #[.slice Ap p.length cp,.slice Am m.length cm],.agg #[.int .i64 4,.slice none 0 0,.int .i64 0,.string ⟨#[]⟩,.bool false]] W fun e w'=>e=.returned (.bool true)/\Below W.heap.size W w'):=fun W0 ae=>by
  refine zPa t p m 4 0 [] ⟨#[]⟩ false A Ap Am none cap cp cm 0 W0 (XM t p m) (hv.below ae ae.size) ((Z8.nil_ 0 (QU _) none)) (QU _) (fun hf W hW=>?_) (fun hf W hW=>?_)
  ·obtain⟨h1,h2,h3,h4,h5⟩:=R7 hf;refine VW t p m 0 [] ⟨#[]⟩ false A Ap Am none cap cp cm 0 W _ (fun W' af=>?_);have aa:=ae.trans ((hW.trans (af.mono hW.size)).mono ae.size);exact(zU0 t p m A Ap Am cap cp cm W' (hv.below aa aa.size) ah (by omega) (hp.below aa aa.size) (hm.below aa aa.size) (by omega) (by omega)).mono fun _ _ h=>h.weak
  obtain⟨h1,h2,h3,h4,h5⟩:=R7 hf;refine zWq t p m 0 [] ⟨#[]⟩ false A Ap Am none cap cp cm 0 W _ (fun W' af=>?_);have aa:=ae.trans ((hW.trans (af.mono hW.size)).mono ae.size);exact(zWb t p m A Ap Am cap cp cm W' (hv.below aa aa.size) ah (by omega) (hp.below aa aa.size) (hm.below aa aa.size) (by omega) (by omega))
 have ay:Hid (∀W,Below w.heap.size w W->Calls Tryz.prog 5 #[.agg #[.int .i64 t.kind,.string t.text,.int .i64 t.cols,.slice A t.kids.length cap],.agg #[.slice Ap p.length cp,.slice Am m.length cm],.agg #[.int .i64 6,.slice none 0 0,.int .i64 0,.string ⟨#[]⟩,.bool columns]] W fun e w'=>e=.returned (.bool true)/\Below W.heap.size W w'):=fun W0 ae=>by
  refine zPa t p m 6 0 [] ⟨#[]⟩ columns A Ap Am none cap cp cm 0 W0 (Xe t p m columns) (hv.below ae ae.size) ((Z8.nil_ 0 (QU _) none)) (QU _) (fun hf W hW=>?_) (fun hf W hW=>?_)
  ·obtain⟨h1,h2,h3,h4,h5⟩:=R7 hf;refine VX t p m 0 [] ⟨#[]⟩ columns A Ap Am none cap cp cm 0 W _ (fun W' af=>?_);have aa:=ae.trans ((hW.trans (af.mono hW.size)).mono ae.size);exact(zVl t p m columns A Ap Am cap cp cm W' (hv.below aa aa.size) ah (by omega) (hp.below aa aa.size) (hm.below aa aa.size) (by omega) (by omega)).mono fun _ _ h=>h.weak
  obtain⟨h1,h2,h3,h4,h5⟩:=R7 hf;refine zWp t p m 0 [] ⟨#[]⟩ columns A Ap Am none cap cp cm 0 W _ (fun W' af=>?_);have aa:=ae.trans ((hW.trans (af.mono hW.size)).mono ae.size);exact(zWe t p m columns A Ap Am cap cp cm W' (hv.below aa aa.size) ah (by omega) (hp.below aa aa.size) (hm.below aa aa.size) (by omega) (by omega))
 clear hv ah hp hm ae ak aj;obtain⟨⟨m0,m1,m2,m3,n0,n1⟩,ag⟩:=KB.out W0 (QQ _ _);have HK:=hid ag;clear ag;go_enter Tryz.func3,Tryz.ntmps3
 go_wp2_with fail
 refine(aA.out _ HK.out).mono ?_;rintro e w1 ⟨rfl,ax⟩;have HT:=hid ax;clear ax m0 m1 m2 m3 n0 n1 ai HK;obtain⟨⟨m0,m1,m2,m3,n0,n1⟩,ag⟩:=KB.out w1 HT.out;have HK:=hid ag;clear ag
 go_wp2_with fail
 refine(az.out _ HK.out).mono ?_;rintro e w2 ⟨rfl,av⟩;have HT:=hid (Zx HT.out av);clear av m0 m1 m2 m3 n0 n1 HK;obtain⟨⟨m0,m1,m2,m3,n0,n1⟩,ag⟩:=KB.out w2 HT.out;have HK:=hid ag;clear ag
 go_wp2_with fail
 refine(ay.out _ HK.out).mono ?_;rintro e w3 ⟨rfl,au⟩;have HK:=hid (Zx HK.out au);clear au m0 m1 m2 m3 n0 n1
 go_wp2_with fail
 go_ret;exact⟨rfl,HK.out⟩
