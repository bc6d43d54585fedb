/- Texts put together. -/
import Derived.Test.YtbjcioknfjofkaaGreatMComposeReinsert7
import Derived.Test.YtbjcioknfjofkaaGreatMComposeReinsert8
set_option linter.unusedVariables false
set_option linter.unusedSimpArgs false
set_option maxRecDepth 100000
namespace Go.Proofs.YtbjcioknfjofkaaGreat
open Go.RowKit
theorem below_allocR' (w:World) (o:Obj):Below w.heap.size w (w.alloc o):=blA w o
theorem bl_alloc {W X:World} (h:Below W.heap.size W X) (o:Obj):Below W.heap.size W (X.alloc o):=blAlloc h o
theorem na_c (W:World) (arr:Array Value) (T:TypeId) (b o:Nat) (hb:b = W.heap.size):(W.alloc (.cells arr T)).cell? ⟨b,o,none⟩ = arr[o]?:=newC W arr T b o hb
theorem na_f (W:World) (arr:Array Value) (T:TypeId) (b o:Nat) (hb:b = W.heap.size):(W.alloc (.cells arr T)).frozen? ⟨b,o,none⟩ = false:=newF W arr T b o hb
theorem old_c (W:World) (B:Obj) (b o:Nat) (x:Option Value) (hb:b < W.heap.size) (h:W.cell? ⟨b,o,none⟩ = x):(W.alloc B).cell? ⟨b,o,none⟩ = x:=oldC W B b o x hb h
theorem na2_c (W:World) (arr:Array Value) (T:TypeId) (B:Obj) (b o:Nat) (hb:b = W.heap.size):((W.alloc (.cells arr T)).alloc B).cell? ⟨b,o,none⟩ = arr[o]?:=by
 rw [(below_allocR' (W.alloc (.cells arr T)) B).cell (by simp;omega)];exact na_c W arr T b o hb
def rowRes (t:Tree) (p:List Int):Tree × Int:=if validS t = false then (zeroT,1) else if (findS t p).2 = false then (zeroT,8) else ((findS t p).1,0)
def RowP (S:Nat→Prop) (w:World) (k:Int) (x:ByteArray) (c:Int) (ts:List Tree) (er:Int) (e:Ending) (w':World):Prop :=
 ∃ v,e = .returned (.tuple #[.agg #[.int .i64 k,.string x,.int .i64 c,v],.int .i64 er])∧SliceR treeE w' S ts v∧Below w.heap.size w w'
set_option maxHeartbeats 2000000 in
theorem rRowS_any (t:Tree) (p:List Int) (A Ap:Option Addr) (cap cp:Nat) (w:World) (S:Nat→Prop) (hS:∀ k,S k→k < w.heap.size) (hv:SliceR treeE w S t.kids (.slice A t.kids.length cap)) (htx:t.text.size≤maxLen) (hct:countS t≤900000) (hp:IntsR w (Lt w.heap.size) p (.slice Ap p.length cp)) :
  Calls Tryz.prog 48 #[.agg #[.int .i64 t.kind,.string t.text,.int .i64 t.cols,.slice A t.kids.length cap],.slice Ap p.length cp] w (RowP S w (rowRes t p).1.kind (rowRes t p).1.text (rowRes t p).1.cols (rowRes t p).1.kids (rowRes t p).2):=by
 have C1:Hid (∀ W,Below w.heap.size w W→Calls Tryz.prog 35 #[.agg #[.int .i64 t.kind,.string t.text,.int .i64 t.cols,.slice A t.kids.length cap]] W fun e w'=>e = .returned (.bool (validS t))∧Below W.heap.size W w'):=fun W hW=>valid_any t A cap W (hv.keep (fun q hq=>hW.cell (hS _ hq)) (fun q hq=>Nat.lt_of_lt_of_le (hS _ hq) hW.size)) htx (by omega)
 have C2:Hid (∀ W,Below w.heap.size w W→Calls Tryz.prog 83 #[.agg #[.int .i64 t.kind,.string t.text,.int .i64 t.cols,.slice A t.kids.length cap],.slice Ap p.length cp] W (FindPost S W (findS t p))):=fun W hW=>find_any t p W _ _ S (fun k h=>Nat.lt_of_lt_of_le (hS _ h) hW.size) (hv.keep (fun q hq=>hW.cell (hS _ hq)) (fun _ h=>h)) (hp.below hW hW.size)
 have HR:Hid (rowRes t p = if validS t = false then (zeroT,1) else if (findS t p).2 = false then (zeroT,8) else ((findS t p).1,0)):=rfl
 generalize rowRes t p = r at *
 generalize findS t p = f at *
 generalize validS t = b1 at *
 obtain ⟨tk,tx,tc,ts⟩:=t
 obtain ⟨ft,b2⟩:=f
 obtain ⟨fk,fx,fc,fs⟩:=ft
 obtain ⟨⟨rk,rx,rc,rt⟩,re⟩:=r
 simp only [Tree.kind,Tree.text,Tree.cols,Tree.kids] at *
 have HSS:=hid hS
 clear hS hv htx hct hp
 generalize hW0:(w.alloc (Obj.cells #[.int .i64 tk,.string tx,.int .i64 tc,.slice A ts.length cap] 24)).alloc (.cells #[.int .i64 0,.string ⟨#[]⟩,.int .i64 0,.slice none 0 0] 24) = W0
 have KB:Hid (∀ W,Below W0.heap.size W0 W→(W.cell? ⟨w.heap.size,0,none⟩ = some (.int .i64 tk)∧W.cell? ⟨w.heap.size,1,none⟩ = some (.string tx)∧W.cell? ⟨w.heap.size,2,none⟩ = some (.int .i64 tc)∧W.cell? ⟨w.heap.size,3,none⟩ = some (.slice A ts.length cap)) ∧
   (W.cell? ⟨w.heap.size + 1,0,none⟩ = some (.int .i64 0)∧W.cell? ⟨w.heap.size + 1,1,none⟩ = some (.string ⟨#[]⟩)∧W.cell? ⟨w.heap.size + 1,2,none⟩ = some (.int .i64 0)∧W.cell? ⟨w.heap.size + 1,3,none⟩ = some (.slice none 0 0)) ∧
   (W.frozen? ⟨w.heap.size + 1,0,none⟩ = false∧W.frozen? ⟨w.heap.size + 1,1,none⟩ = false∧W.frozen? ⟨w.heap.size + 1,2,none⟩ = false∧W.frozen? ⟨w.heap.size + 1,3,none⟩ = false)∧Below w.heap.size w W∧w.heap.size + 1 < W.heap.size):=by
  intro W hW
  have hz:W0.heap.size = w.heap.size + 1 + 1:=by rw [← hW0];simp
  have hc:=(bcell hW).1
  have hf:=(bcell hW).2
  have hbb:Below w.heap.size w W0:=by rw [← hW0];exact bl_alloc (below_allocR' _ _) _
  refine ⟨⟨(hc _ _ (by omega)).trans ?_,(hc _ _ (by omega)).trans ?_,(hc _ _ (by omega)).trans ?_,(hc _ _ (by omega)).trans ?_⟩,⟨(hc _ _ (by omega)).trans ?_,(hc _ _ (by omega)).trans ?_,(hc _ _ (by omega)).trans ?_,(hc _ _ (by omega)).trans ?_⟩,⟨(hf _ _ (by omega)).trans ?_,(hf _ _ (by omega)).trans ?_,(hf _ _ (by omega)).trans ?_,(hf _ _ (by omega)).trans ?_⟩,hbb.trans (hW.mono hbb.size),by have:=hW.size;omega⟩
  all_goals (rw [← hW0];first | exact na2_c _ _ _ _ _ _ rfl | exact na_c _ _ _ _ _ (by simp) | exact na_f _ _ _ _ _ (by simp))
 rcases b1 with _ | _
 ·clear C2
  obtain ⟨⟨m0,m1,m2,m3⟩,⟨c0,c1,c2,c3⟩,⟨f0,f1,f2,f3⟩,hbw0,hz0⟩:=KB.out W0 (Below.refl _ _)
  have HBW0:=hid hbw0
  clear hbw0
  go_enter Tryz.func48,Tryz.ntmps48
  go_wp2_with fail
  refine (C1.out _ HBW0.out).mono ?_
  rintro e w1 ⟨rfl,hb1⟩
  clear m0 m1 m2 m3 c0 c1 c2 c3 f0 f1 f2 f3 hz0
  obtain ⟨⟨m0,m1,m2,m3⟩,hr1,⟨f0,f1,f2,f3⟩,hbw1,hz1⟩:=KB.out w1 hb1
  have HBL1:=hid hb1
  have HBW1:=hid hbw1
  obtain ⟨c0,c1,c2,c3⟩:=hr1
  have HR1:=hid (And.intro c0 (And.intro c1 (And.intro c2 c3)))
  clear hb1 hbw1
  go_wp2_with fail
  generalize hW:(((w1.setCell _ (.int .i64 0)).setCell _ (.string ⟨#[]⟩)).setCell _ (.int .i64 0)).setCell _ (.slice none 0 0) = W
  obtain ⟨⟨r0,r1,r2,r3⟩,rz,rb,ro,_⟩:=four HR1.out.1 HR1.out.2.1 HR1.out.2.2.1 HR1.out.2.2.2 _ _ _ _ hW.symm
  have HB':=hid (rb w.heap.size w (by omega) HBW1.out)
  have HRO:Hid (∀ q:Addr,q.block≠w.heap.size + 1→W.cell? q = (w1).cell? q):=ro
  clear hW ro rb
  refine bodyPost_ret (v:=.tuple #[.agg #[.int .i64 0,.string ⟨#[]⟩,.int .i64 0,.slice none 0 0],.int .i64 1]) (by simp [results,Tryz.results48,go_sem,r0,r1,r2,r3]) rfl ?_
  have h:=HR.out
  simp [zeroT] at h
  obtain ⟨⟨h1,h2,h3,h4⟩,h5⟩:=h
  rw [h1,h2,h3,h4,h5]
  exact ⟨_,rfl,SliceR.nil_ 0 (Nat.zero_le _) none,HB'.out⟩
 rcases b2 with _ | _
 ·obtain ⟨⟨m0,m1,m2,m3⟩,⟨c0,c1,c2,c3⟩,⟨f0,f1,f2,f3⟩,hbw0,hz0⟩:=KB.out W0 (Below.refl _ _)
  have HBW0:=hid hbw0
  clear hbw0
  go_enter Tryz.func48,Tryz.ntmps48
  go_wp2_with fail
  refine (C1.out _ HBW0.out).mono ?_
  rintro e w1 ⟨rfl,hb1⟩
  clear m0 m1 m2 m3 c0 c1 c2 c3 f0 f1 f2 f3 hz0
  obtain ⟨⟨m0,m1,m2,m3⟩,hr1,⟨f0,f1,f2,f3⟩,hbw1,hz1⟩:=KB.out w1 hb1
  have HBL1:=hid hb1
  have HBW1:=hid hbw1
  obtain ⟨c0,c1,c2,c3⟩:=hr1
  have HR1:=hid (And.intro c0 (And.intro c1 (And.intro c2 c3)))
  clear hb1 hbw1
  go_wp2_with fail
  refine (C2.out _ HBW1.out).mono ?_
  intro e w2 h
  obtain ⟨v2,rfl,hi2,hb2⟩:∃ v,e = .returned (.tuple #[.agg #[.int .i64 fk,.string fx,.int .i64 fc,v],.bool false])∧SliceR treeE w2 S fs v∧Below w1.heap.size w1 w2:=h
  obtain ⟨A2,c2n,rfl⟩:=hi2.form
  have HI2:=hid hi2
  clear m0 m1 m2 m3 c0 c1 c2 c3 f0 f1 f2 f3 hi2
  have HBL2:=hid (HBL1.out.trans (hb2.mono HBL1.out.size))
  obtain ⟨⟨m0,m1,m2,m3⟩,hr2,⟨f0,f1,f2,f3⟩,hbw2,hz2⟩:=KB.out w2 HBL2.out
  have HBW2:=hid hbw2
  obtain ⟨c0,c1,c2,c3⟩:=hr2
  have HR2:=hid (And.intro c0 (And.intro c1 (And.intro c2 c3)))
  clear hb2 hbw2
  go_wp2_with fail
  generalize hW:(((w2.setCell _ (.int .i64 0)).setCell _ (.string ⟨#[]⟩)).setCell _ (.int .i64 0)).setCell _ (.slice none 0 0) = W
  obtain ⟨⟨r0,r1,r2,r3⟩,rz,rb,ro,_⟩:=four HR2.out.1 HR2.out.2.1 HR2.out.2.2.1 HR2.out.2.2.2 _ _ _ _ hW.symm
  have HB':=hid (rb w.heap.size w (by omega) HBW2.out)
  have HRO:Hid (∀ q:Addr,q.block≠w.heap.size + 1→W.cell? q = w2.cell? q):=ro
  have hzW:w.heap.size + 1 < W.heap.size:=by rw [rz];exact hz2
  replace r0:=old_c W (Obj.cells #[.int .i64 fk,.string fx,.int .i64 fc,.slice A2 fs.length c2n] 24) _ _ _ hzW r0
  replace r1:=old_c W (Obj.cells #[.int .i64 fk,.string fx,.int .i64 fc,.slice A2 fs.length c2n] 24) _ _ _ hzW r1
  replace r2:=old_c W (Obj.cells #[.int .i64 fk,.string fx,.int .i64 fc,.slice A2 fs.length c2n] 24) _ _ _ hzW r2
  replace r3:=old_c W (Obj.cells #[.int .i64 fk,.string fx,.int .i64 fc,.slice A2 fs.length c2n] 24) _ _ _ hzW r3
  clear hW ro rb
  refine bodyPost_ret (v:=.tuple #[.agg #[.int .i64 0,.string ⟨#[]⟩,.int .i64 0,.slice none 0 0],.int .i64 8]) (by simp [results,Tryz.results48,go_sem,r0,r1,r2,r3]) rfl ?_
  have h:=HR.out
  simp [zeroT] at h
  obtain ⟨⟨h1,h2,h3,h4⟩,h5⟩:=h
  rw [h1,h2,h3,h4,h5]
  exact ⟨_,rfl,SliceR.nil_ 0 (Nat.zero_le _) none,bl_alloc HB'.out _⟩
 ·obtain ⟨⟨m0,m1,m2,m3⟩,⟨c0,c1,c2,c3⟩,⟨f0,f1,f2,f3⟩,hbw0,hz0⟩:=KB.out W0 (Below.refl _ _)
  have HBW0:=hid hbw0
  clear hbw0
  go_enter Tryz.func48,Tryz.ntmps48
  go_wp2_with fail
  refine (C1.out _ HBW0.out).mono ?_
  rintro e w1 ⟨rfl,hb1⟩
  clear m0 m1 m2 m3 c0 c1 c2 c3 f0 f1 f2 f3 hz0
  obtain ⟨⟨m0,m1,m2,m3⟩,hr1,⟨f0,f1,f2,f3⟩,hbw1,hz1⟩:=KB.out w1 hb1
  have HBL1:=hid hb1
  have HBW1:=hid hbw1
  obtain ⟨c0,c1,c2,c3⟩:=hr1
  have HR1:=hid (And.intro c0 (And.intro c1 (And.intro c2 c3)))
  clear hb1 hbw1
  go_wp2_with fail
  refine (C2.out _ HBW1.out).mono ?_
  intro e w2 h
  obtain ⟨v2,rfl,hi2,hb2⟩:∃ v,e = .returned (.tuple #[.agg #[.int .i64 fk,.string fx,.int .i64 fc,v],.bool true])∧SliceR treeE w2 S fs v∧Below w1.heap.size w1 w2:=h
  obtain ⟨A2,c2n,rfl⟩:=hi2.form
  have HI2:=hid hi2
  clear m0 m1 m2 m3 c0 c1 c2 c3 f0 f1 f2 f3 hi2
  have HBL2:=hid (HBL1.out.trans (hb2.mono HBL1.out.size))
  obtain ⟨⟨m0,m1,m2,m3⟩,hr2,⟨f0,f1,f2,f3⟩,hbw2,hz2⟩:=KB.out w2 HBL2.out
  have HBW2:=hid hbw2
  obtain ⟨c0,c1,c2,c3⟩:=hr2
  have HR2:=hid (And.intro c0 (And.intro c1 (And.intro c2 c3)))
  clear hb2 hbw2
  go_wp2_with fail
  generalize hW:(((w2.setCell _ (.int .i64 fk)).setCell _ (.string fx)).setCell _ (.int .i64 fc)).setCell _ (.slice A2 fs.length c2n) = W
  obtain ⟨⟨r0,r1,r2,r3⟩,rz,rb,ro,_⟩:=four HR2.out.1 HR2.out.2.1 HR2.out.2.2.1 HR2.out.2.2.2 _ _ _ _ hW.symm
  have HB':=hid (rb w.heap.size w (by omega) HBW2.out)
  have HRO:Hid (∀ q:Addr,q.block≠w.heap.size + 1→W.cell? q = w2.cell? q):=ro
  have hzW:w.heap.size + 1 < W.heap.size:=by rw [rz];exact hz2
  replace r0:=old_c W (Obj.cells #[.int .i64 fk,.string fx,.int .i64 fc,.slice A2 fs.length c2n] 24) _ _ _ hzW r0
  replace r1:=old_c W (Obj.cells #[.int .i64 fk,.string fx,.int .i64 fc,.slice A2 fs.length c2n] 24) _ _ _ hzW r1
  replace r2:=old_c W (Obj.cells #[.int .i64 fk,.string fx,.int .i64 fc,.slice A2 fs.length c2n] 24) _ _ _ hzW r2
  replace r3:=old_c W (Obj.cells #[.int .i64 fk,.string fx,.int .i64 fc,.slice A2 fs.length c2n] 24) _ _ _ hzW r3
  clear hW ro rb
  refine bodyPost_ret (v:=.tuple #[.agg #[.int .i64 fk,.string fx,.int .i64 fc,.slice A2 fs.length c2n],.int .i64 0]) (by simp [results,Tryz.results48,go_sem,r0,r1,r2,r3]) rfl ?_
  have h:=HR.out
  simp [zeroT] at h
  obtain ⟨⟨h1,h2,h3,h4⟩,h5⟩:=h
  rw [h1,h2,h3,h4,h5]
  exact ⟨_,rfl,HI2.out.keep (fun q hq=>((below_allocR' _ _).cell (Nat.lt_of_lt_of_le (HSS.out _ hq) HB'.out.size)).trans (HRO.out q (Nat.ne_of_lt (Nat.lt_succ_of_lt (HSS.out _ hq))))) (fun _ h=>h),bl_alloc HB'.out _⟩
theorem rRow_any (t:Tree) (p:List Int) (A Ap:Option Addr) (cap cp:Nat) (w:World) (hv:SliceR treeE w (Lt w.heap.size) t.kids (.slice A t.kids.length cap)) (htx:t.text.size≤maxLen) (hct:countS t≤900000) (hp:IntsR w (Lt w.heap.size) p (.slice Ap p.length cp)) :
  Calls Tryz.prog 48 #[.agg #[.int .i64 t.kind,.string t.text,.int .i64 t.cols,.slice A t.kids.length cap],.slice Ap p.length cp] w (RowP (Lt w.heap.size) w (rowRes t p).1.kind (rowRes t p).1.text (rowRes t p).1.cols (rowRes t p).1.kids (rowRes t p).2):=rRowS_any t p A Ap cap cp w (Lt w.heap.size) (fun _ h=>h) hv htx hct hp
end Go.Proofs.YtbjcioknfjofkaaGreat
