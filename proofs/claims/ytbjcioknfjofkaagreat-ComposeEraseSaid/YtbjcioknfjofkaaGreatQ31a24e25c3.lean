/- Texts put together. -/
import Derived.Test.YtbjcioknfjofkaaGreatQ6da73ac3b1
import Derived.Test.YtbjcioknfjofkaaGreatQ3286c9d0c1
import Derived.Test.YtbjcioknfjofkaaGreatQ3856124fd5
import Derived.Test.YtbjcioknfjofkaaGreatQ7524318bcc
import Derived.Test.YtbjcioknfjofkaaGreatQ30f69bf3fa
set_option linter.unusedVariables false
set_option linter.unusedSimpArgs false
set_option maxRecDepth 100000
namespace Go.Proofs.YtbjcioknfjofkaaGreat
open Go.RowKit
theorem zO5 (l:List Tree) (op:OpD) (A Ar An:Option Addr) (cap lr cr cn:Nat) (w:World) (S:Nat→Prop) (hS:∀ q,S q→q < w.heap.size) (hl:zAa zAb w S l (.slice A l.length cap)) (hn:zAa zAb w S op.nodes (.slice An op.nodes.length cn)) (hat:In64 op.at_) (hn64:In64 op.n) (htx:op.text.size≤maxLen) (hcl:zAd l≤1000000) (hcn:zAd op.nodes≤1000000) (hf:zBp op = true) :
  Calls Tryz.prog 79 #[.slice A l.length cap,.agg (opC op (.slice Ar lr cr) (.slice An op.nodes.length cn))] w (zCa S w (zAi l op)):=by
 obtain ⟨kind,row,at_,n,nodes,slot,old,text⟩:=op
 simp only at *
 unfold zBp at hf
 simp only at hf
 split at hf
 ·rename_i hk
  rcases hk with rfl | rfl
  ·exact chg_ins l row at_ n slot nodes old text A Ar An cap lr cr cn w S hS hl hn hat hcl hcn
  ·exact chg_del l row at_ n slot nodes old text A Ar An cap lr cr cn w S hS hl hn hat hcl hcn
 ·split at hf
  ·rename_i hk
   simp only [Bool.and_eq_true,decide_eq_true_eq] at hf
   rcases hk with rfl | rfl
   ·exact chg_wrap l row at_ n slot nodes old text A Ar An cap lr cr cn w S hS hl hn hat hcl hcn hf.1 hn64 hf.2.1
   ·exact chg_unw l row at_ n slot nodes old text A Ar An cap lr cr cn w S hS hl hn hat hcl hcn hf.1 hf.2.1
  ·split at hf
   ·rename_i hk
    subst hk
    exact chg_set l row at_ n slot nodes old text A Ar An cap lr cr cn w S hS hl hn hat hcl hcn htx
   ·cases hf
def zA8 (t:Tree) (op:OpD):Tree × Int :=
 if zAf t = false then (zAx,1)
 else if zBp op = false then (zAx,4)
 else if (zAg t op.row).2≠0 then (zAx,(zAg t op.row).2)
 else if (zAi (zAg t op.row).1.kids op).2≠0 then (zAx,(zAi (zAg t op.row).1.kids op).2)
 else if zAf (putS t op.row (zAi (zAg t op.row).1.kids op).1) = false then (zAx,6)
 else (putS t op.row (zAi (zAg t op.row).1.kids op).1,0)
def zIw (S:Nat→Prop) (w:World) (r:Tree × Int) (e:Ending) (w':World):Prop :=
 ∃ v,e = .returned (.tuple #[.agg #[.int .i64 r.1.kind,.string r.1.text,.int .i64 r.1.cols,v],.int .i64 r.2])∧zAa zAb w' (NS S w.heap.size w') r.1.kids v∧Below w.heap.size w w'
structure OpD.Fits (op:OpD):Prop where
 at_:In64 op.at_
 n:In64 op.n
 text:op.text.size≤maxLen
 nodes:zAd op.nodes≤100000
set_option maxHeartbeats 16000000 in
theorem apply_any (t:Tree) (op:OpD) (A Ar An:Option Addr) (cap cr cn:Nat) (w:World) (S:Nat→Prop) (hS:∀ q,S q→q < w.heap.size) (hv:zAa zAb w S t.kids (.slice A t.kids.length cap)) (hok:zAu t) (hct:zAe t≤900000) (hop:op.Fits) (hr:zAh w (Lt w.heap.size) op.row (.slice Ar op.row.length cr)) (hn:zAa zAb w S op.nodes (.slice An op.nodes.length cn)) :
  Calls Tryz.prog 45 #[.agg #[.int .i64 t.kind,.string t.text,.int .i64 t.cols,.slice A t.kids.length cap],.agg (opC op (.slice Ar op.row.length cr) (.slice An op.nodes.length cn))] w (zIw S w (zA8 t op)):=by
 have hSB:∀ {W},Below w.heap.size w W→∀ q,S q→q < W.heap.size:=fun hW q hq=>Nat.lt_of_lt_of_le (hS q hq) hW.size
 have C1:Hid (∀ W,Below w.heap.size w W→Calls Tryz.prog 35 #[.agg #[.int .i64 t.kind,.string t.text,.int .i64 t.cols,.slice A t.kids.length cap]] W fun e w'=>e = .returned (.bool (zAf t))∧Below W.heap.size W w'):=fun W hW=>zDx t A cap W (zFl hv hS hW) hok.2.2 (by omega)
 have C2:Hid (∀ W,Below w.heap.size w W→Calls Tryz.prog 78 #[.agg (opC op (.slice Ar op.row.length cr) (.slice An op.nodes.length cn))] W fun e w'=>e = .returned (.bool (zBp op))∧Below W.heap.size W w'):=fun W hW=>zOv op op.row.length Ar An cr cn W (zFl hn hS hW) (Nat.le_trans hop.nodes (by omega))
 have C3:Hid (∀ W,Below w.heap.size w W→Calls Tryz.prog 48 #[.agg #[.int .i64 t.kind,.string t.text,.int .i64 t.cols,.slice A t.kids.length cap],.slice Ar op.row.length cr] W (RowP S W (zAg t op.row).1.kind (zAg t op.row).1.text (zAg t op.row).1.cols (zAg t op.row).1.kids (zAg t op.row).2)):=fun W hW=>zF0 t op.row A Ar cap cr W S (hSB hW) (zBg hv hS hW) hok.2.2 hct (hr.below hW hW.size)
 have C4:Hid (∀ W A' cap',Below w.heap.size w W→zBp op = true→zAa zAb W S (zAg t op.row).1.kids (.slice A' (zAg t op.row).1.kids.length cap')→Calls Tryz.prog 79 #[.slice A' (zAg t op.row).1.kids.length cap',.agg (opC op (.slice Ar op.row.length cr) (.slice An op.nodes.length cn))] W (zCa S W (zAi (zAg t op.row).1.kids op))):=fun W A' cap' hW hf hl =>
  zO5 (zAg t op.row).1.kids op A' Ar An cap' op.row.length cr cn W S (hSB hW) hl (zBg hn hS hW) hop.at_ hop.n hop.text (by have:=zE5 t op.row hct;omega) (Nat.le_trans hop.nodes (by omega)) hf
 have C5:Hid (∀ W b A' cap',Below w.heap.size w W→zAf t = true→(zAg t op.row).2 = 0→(zAi (zAg t op.row).1.kids op).1.length≤1000000→zAa zAb W (NS S b W) (zAi (zAg t op.row).1.kids op).1 (.slice A' (zAi (zAg t op.row).1.kids op).1.length cap') →
   Calls Tryz.prog 80 #[.agg #[.int .i64 t.kind,.string t.text,.int .i64 t.cols,.slice A t.kids.length cap],.slice Ar op.row.length cr,.slice A' (zAi (zAg t op.row).1.kids op).1.length cap'] W (zEa (NS S b W) W (putS t op.row (zAi (zAg t op.row).1.kids op).1))):=fun W b A' cap' hW hvt hre hll hl =>
  zPz op.row t (zAi (zAg t op.row).1.kids op).1 A A' Ar cap cap' cr W (NS S b W) (fun q hq=>by
   rcases hq with hq | hq
   ·exact hSB hW q hq
   ·exact hq.2) (zGx hvt hre).1 (by omega) hok hll ((zBg hv hS hW).keep (fun _ _=>rfl) (fun q hq=>.inl hq)) hl (hr.below hW hW.size)
 have C6:Hid (∀ W A' cap',zAa zAb W (Lt W.heap.size) (putS t op.row (zAi (zAg t op.row).1.kids op).1).kids (.slice A' (putS t op.row (zAi (zAg t op.row).1.kids op).1).kids.length cap')→zAe (putS t op.row (zAi (zAg t op.row).1.kids op).1)≤100000000 →
   Calls Tryz.prog 35 #[.agg #[.int .i64 (putS t op.row (zAi (zAg t op.row).1.kids op).1).kind,.string (putS t op.row (zAi (zAg t op.row).1.kids op).1).text,.int .i64 (putS t op.row (zAi (zAg t op.row).1.kids op).1).cols,.slice A' (putS t op.row (zAi (zAg t op.row).1.kids op).1).kids.length cap']] W fun e w'=>e = .returned (.bool (zAf (putS t op.row (zAi (zAg t op.row).1.kids op).1)))∧Below W.heap.size W w'):=fun W A' cap' hl hc =>
  zDx _ A' cap' W hl (zKc t op.row _ hok).2.2 (by omega)
 have HCL:Hid (zAf t = true→(zAi (zAg t op.row).1.kids op).1.length≤1000000∧zAe (putS t op.row (zAi (zAg t op.row).1.kids op).1)≤100000000):=fun h=>by
  have h1:=(zA0 h).1
  have h2:=zE5 t op.row h1
  have h3:=zMa (zAg t op.row).1.kids op
  have h4:=zBf (zAi (zAg t op.row).1.kids op).1
  have h5:=zLd op.row t (zAi (zAg t op.row).1.kids op).1
  have h6:=hop.nodes
  constructor <;> omega
 have HA:Hid ((zAf t = false→zA8 t op = (zAx,1))∧(zAf t = true→(zBp op = false→zA8 t op = (zAx,4))∧(zBp op = true→((zAg t op.row).2≠0→zA8 t op = (zAx,(zAg t op.row).2))∧((zAg t op.row).2 = 0→((zAi (zAg t op.row).1.kids op).2≠0→zA8 t op = (zAx,(zAi (zAg t op.row).1.kids op).2)) ∧
   ((zAi (zAg t op.row).1.kids op).2 = 0→(zAf (putS t op.row (zAi (zAg t op.row).1.kids op).1) = false→zA8 t op = (zAx,6))∧(zAf (putS t op.row (zAi (zAg t op.row).1.kids op).1) = true→zA8 t op = (putS t op.row (zAi (zAg t op.row).1.kids op).1,0))))))):=by
  unfold zA8
  refine ⟨fun h=>if_pos h,fun h=>?_⟩
  rw [if_neg (by simp [h])]
  refine ⟨fun h=>if_pos h,fun h=>?_⟩
  rw [if_neg (by simp [h])]
  refine ⟨fun h=>if_pos h,fun h=>?_⟩
  rw [if_neg (by simp [h])]
  refine ⟨fun h=>if_pos h,fun h=>?_⟩
  rw [if_neg (by simp [h])]
  exact ⟨fun h=>if_pos h,fun h=>if_neg (by simp [h])⟩
 have HSS:=hid hS
 have HRT:Hid ((putS t op.row (zAi (zAg t op.row).1.kids op).1).kids = (putS t op.row (zAi (zAg t op.row).1.kids op).1).kids):=rfl
 generalize zA8 t op = RES at *
 generalize putS t op.row (zAi (zAg t op.row).1.kids op).1 = OUT at *
 generalize zAi (zAg t op.row).1.kids op = CH at *
 generalize zAg t op.row = RR at *
 generalize hbV:zAf t = bV at *
 generalize hbF:zBp op = bF at *
 generalize hbO:zAf OUT = bO at *
 obtain ⟨tk,tx,tc,ts⟩:=t
 obtain ⟨kind,row,at_,n,nodes,slot,old,text⟩:=op
 obtain ⟨ok,ox,oc,os⟩:=OUT
 obtain ⟨L,e4⟩:=CH
 obtain ⟨⟨rk,rx,rc,rs⟩,e3⟩:=RR
 simp only [Tree.kind,Tree.text,Tree.cols,Tree.kids] at *
 generalize hW0:((w.alloc (Obj.cells #[.int .i64 tk,.string tx,.int .i64 tc,.slice A ts.length cap] 24)).alloc (Obj.cells (opC ⟨kind,row,at_,n,nodes,slot,old,text⟩ (.slice Ar row.length cr) (.slice An nodes.length cn)) 67)).alloc (Obj.cells #[.int .i64 0,.string ⟨#[]⟩,.int .i64 0,.slice none 0 0] 24) = W0
 have hz0:W0.heap.size = w.heap.size + 1 + 1 + 1:=by rw [← hW0];simp
 have hB0:Below w.heap.size w W0:=by rw [← hW0];exact zAp (zAp (blA _ _) _) _
 have hbT:Box4 W0 w.heap.size tk tx tc (.slice A ts.length cap):=by
  rw [← hW0]
  exact ((Box4.new w _ _ _ _ _).below (blA _ _) (by simp)).below (blA _ _) (by simp;omega)
 have hbP:zDa W0 (w.heap.size + 1) ⟨kind,row,at_,n,nodes,slot,old,text⟩ (.slice Ar row.length cr) (.slice An nodes.length cn):=by
  rw [← hW0]
  have h:=(zDa.new (w.alloc (Obj.cells #[.int .i64 tk,.string tx,.int .i64 tc,.slice A ts.length cap] 24)) ⟨kind,row,at_,n,nodes,slot,old,text⟩ (.slice Ar row.length cr) (.slice An nodes.length cn) 67).below (blA _ (Obj.cells #[.int .i64 0,.string ⟨#[]⟩,.int .i64 0,.slice none 0 0] 24)) (by simp)
  simpa using h
 have hbR:Box4 W0 (w.heap.size + 1 + 1) 0 ⟨#[]⟩ 0 (.slice none 0 0)∧zCz W0 (w.heap.size + 1 + 1):=by
  rw [← hW0]
  have h:=Box4.new ((w.alloc (Obj.cells #[.int .i64 tk,.string tx,.int .i64 tc,.slice A ts.length cap] 24)).alloc (Obj.cells (opC ⟨kind,row,at_,n,nodes,slot,old,text⟩ (.slice Ar row.length cr) (.slice An nodes.length cn)) 67)) 0 ⟨#[]⟩ 0 (.slice none 0 0) 24
  have h2:=zCz.new ((w.alloc (Obj.cells #[.int .i64 tk,.string tx,.int .i64 tc,.slice A ts.length cap] 24)).alloc (Obj.cells (opC ⟨kind,row,at_,n,nodes,slot,old,text⟩ (.slice Ar row.length cr) (.slice An nodes.length cn)) 67)) #[.int .i64 0,.string ⟨#[]⟩,.int .i64 0,.slice none 0 0] 24
  exact ⟨by simpa using h,by simpa using h2⟩
 have KB:Hid (∀ W,Below W0.heap.size W0 W→Box4 W w.heap.size tk tx tc (.slice A ts.length cap)∧zDa W (w.heap.size + 1) ⟨kind,row,at_,n,nodes,slot,old,text⟩ (.slice Ar row.length cr) (.slice An nodes.length cn)∧Box4 W (w.heap.size + 1 + 1) 0 ⟨#[]⟩ 0 (.slice none 0 0)∧zCz W (w.heap.size + 1 + 1)∧Below w.heap.size w W):=fun W hW =>
  ⟨hbT.below hW (by omega),hbP.below hW (by omega),hbR.1.below hW (by omega),hbR.2.below hW (by omega),hB0.trans (hW.mono hB0.size)⟩
 have HZ0:=hid hz0
 simp only [opC] at *
 obtain ⟨hx1,hx2,hx3,hx4,hB0'⟩:=KB.out W0 (Below.refl _ _)
 have HB0:=hid hB0
 clear hv hn hr hok hop hct hS hSB hz0 hB0 hbT hbP hbR hx3 hx4 hB0' hbV hbF hbO HRT
 obtain ⟨m0,m1,m2,m3⟩:=hx1
 obtain ⟨o0,o1,o2,o3,o4,o5,o6,o7⟩:=hx2
 cases bV
 ·go_enter Tryz.func45,Tryz.ntmps45
  go_wp2_with fail
  refine (C1.out _ HB0.out).mono ?_
  rintro e w1 ⟨rfl,hb1⟩
  have HT1:=hid hb1
  clear hb1 m0 m1 m2 m3 o0 o1 o2 o3 o4 o5 o6 o7
  obtain ⟨⟨m0,m1,m2,m3⟩,⟨o0,o1,o2,o3,o4,o5,o6,o7⟩,hrb,⟨f0,f1,f2,f3⟩,hbw⟩:=KB.out w1 HT1.out
  have HRB:=hid hrb
  obtain ⟨r0,r1,r2,r3⟩:=hrb
  have HK1:=hid hbw
  clear hbw
  go_wp2_with fail
  generalize hZ:((((w1.setCell _ (.int .i64 0)).setCell _ (.string ⟨#[]⟩)).setCell _ (.int .i64 0)).setCell _ (.slice none 0 0)) = Z
  obtain ⟨⟨e0,e1,e2,e3'⟩,hZs,hZB,hZo,_,_⟩:=zC4 (o:=0) HRB.out.1 HRB.out.2.1 HRB.out.2.2.1 HRB.out.2.2.2 _ _ _ _ hZ.symm
  simp only [Nat.zero_add] at e1 e2 e3'
  have HZB:=hid (hZB w.heap.size w (by omega) HK1.out)
  clear hZ hZs hZB hZo
  refine bodyPost_ret (v:=.tuple #[.agg #[.int .i64 0,.string ⟨#[]⟩,.int .i64 0,.slice none 0 0],.int .i64 1]) (by simp [results,Tryz.results45,go_sem,e0,e1,e2,e3']) rfl ?_
  rw [HA.out.1 (by trivial)]
  exact ⟨_,rfl,zAa.nil_ 0 (Nat.zero_le _) none,HZB.out⟩
 cases bF
 ·go_enter Tryz.func45,Tryz.ntmps45
  go_wp2_with fail
  refine (C1.out _ HB0.out).mono ?_
  rintro e w1 ⟨rfl,hb1⟩
  have HT1:=hid hb1
  clear hb1 m0 m1 m2 m3 o0 o1 o2 o3 o4 o5 o6 o7
  obtain ⟨⟨m0,m1,m2,m3⟩,⟨o0,o1,o2,o3,o4,o5,o6,o7⟩,hrb,⟨f0,f1,f2,f3⟩,hbw⟩:=KB.out w1 HT1.out
  have HRB:=hid hrb
  obtain ⟨r0,r1,r2,r3⟩:=hrb
  have HK1:=hid hbw
  clear hbw
  go_wp2_with fail
  refine (C2.out _ HK1.out).mono ?_
  rintro e w2 ⟨rfl,hb2⟩
  have HT2:=hid (HT1.out.trans (hb2.mono HT1.out.size))
  clear hb2
  clear m0 m1 m2 m3 o0 o1 o2 o3 o4 o5 o6 o7 r0 r1 r2 r3 f0 f1 f2 f3 HRB
  obtain ⟨⟨m0,m1,m2,m3⟩,⟨o0,o1,o2,o3,o4,o5,o6,o7⟩,hrb,⟨f0,f1,f2,f3⟩,hbw⟩:=KB.out w2 HT2.out
  have HRB:=hid hrb
  obtain ⟨r0,r1,r2,r3⟩:=hrb
  have HK2:=hid hbw
  clear hbw
  go_wp2_with fail
  generalize hZ:((((w2.setCell _ (.int .i64 0)).setCell _ (.string ⟨#[]⟩)).setCell _ (.int .i64 0)).setCell _ (.slice none 0 0)) = Z
  obtain ⟨⟨e0,e1,e2,e3'⟩,hZs,hZB,hZo,_,_⟩:=zC4 (o:=0) HRB.out.1 HRB.out.2.1 HRB.out.2.2.1 HRB.out.2.2.2 _ _ _ _ hZ.symm
  simp only [Nat.zero_add] at e1 e2 e3'
  have HZB:=hid (hZB w.heap.size w (by omega) HK2.out)
  clear hZ hZs hZB hZo
  refine bodyPost_ret (v:=.tuple #[.agg #[.int .i64 0,.string ⟨#[]⟩,.int .i64 0,.slice none 0 0],.int .i64 4]) (by simp [results,Tryz.results45,go_sem,e0,e1,e2,e3']) rfl ?_
  rw [(HA.out.2 (by trivial)).1 (by trivial)]
  exact ⟨_,rfl,zAa.nil_ 0 (Nat.zero_le _) none,HZB.out⟩
 rcases Decidable.em (e3 = 0) with he3 | he3
 case inr =>
  have HE3:=hid he3
  have i0:(e3 != 0) = true:=by simpa using he3
  go_enter Tryz.func45,Tryz.ntmps45
  go_wp2_with fail
  refine (C1.out _ HB0.out).mono ?_
  rintro e w1 ⟨rfl,hb1⟩
  have HT1:=hid hb1
  clear hb1 m0 m1 m2 m3 o0 o1 o2 o3 o4 o5 o6 o7
  obtain ⟨⟨m0,m1,m2,m3⟩,⟨o0,o1,o2,o3,o4,o5,o6,o7⟩,hrb,⟨f0,f1,f2,f3⟩,hbw⟩:=KB.out w1 HT1.out
  have HRB:=hid hrb
  obtain ⟨r0,r1,r2,r3⟩:=hrb
  have HK1:=hid hbw
  clear hbw
  go_wp2_with fail
  refine (C2.out _ HK1.out).mono ?_
  rintro e w2 ⟨rfl,hb2⟩
  have HT2:=hid (HT1.out.trans (hb2.mono HT1.out.size))
  clear hb2
  clear m0 m1 m2 m3 o0 o1 o2 o3 o4 o5 o6 o7 r0 r1 r2 r3 f0 f1 f2 f3 HRB
  obtain ⟨⟨m0,m1,m2,m3⟩,⟨o0,o1,o2,o3,o4,o5,o6,o7⟩,hrb,⟨f0,f1,f2,f3⟩,hbw⟩:=KB.out w2 HT2.out
  have HRB:=hid hrb
  obtain ⟨r0,r1,r2,r3⟩:=hrb
  have HK2:=hid hbw
  clear hbw
  go_wp2_with fail
  refine (C3.out _ HK2.out).mono ?_
  intro e w3 h3
  obtain ⟨v3,rfl,hr3,hb3⟩:∃ v,e = .returned (.tuple #[.agg #[.int .i64 rk,.string rx,.int .i64 rc,v],.int .i64 e3])∧zAa zAb w3 S rs v∧Below w2.heap.size w2 w3:=h3
  obtain ⟨A3,c3,rfl⟩:=hr3.form
  have HT3:=hid (HT2.out.trans (hb3.mono HT2.out.size))
  have HR3:=hid hr3
  have HK3:=hid (zAq HK2.out hb3)
  clear hb3 hr3
  clear m0 m1 m2 m3 o0 o1 o2 o3 o4 o5 o6 o7 r0 r1 r2 r3 f0 f1 f2 f3 HRB
  go_upto_region 6 with fail
  obtain ⟨X,hX⟩:∃ X,w3.alloc (Obj.cells #[.int .i64 rk,.string rx,.int .i64 rc,.slice A3 rs.length c3] 24) = X:=⟨_,rfl⟩
  rw [hX]
  have hXB:Below w3.heap.size w3 X:=by rw [← hX];exact blA _ _
  have hx3:X.cell? ⟨w3.heap.size,3,none⟩ = some (.slice A3 rs.length c3):=by rw [← hX];exact newC _ _ _ _ _ rfl
  have HTX:=hid (HT3.out.trans (hXB.mono HT3.out.size))
  have HRX:Hid (zAa zAb X S rs (.slice A3 rs.length c3)):=HR3.out.keep (fun q hq=>hXB.cell (Nat.lt_of_lt_of_le (HSS.out _ hq) HK3.out.size)) (fun _ h=>h)
  clear hX hXB
  obtain ⟨⟨m0,m1,m2,m3⟩,⟨o0,o1,o2,o3,o4,o5,o6,o7⟩,hrb,⟨f0,f1,f2,f3⟩,hbw⟩:=KB.out X HTX.out
  have HRB:=hid hrb
  obtain ⟨r0,r1,r2,r3⟩:=hrb
  have HKX:=hid hbw
  clear hbw
  go_wp2_with fail
  generalize hZ:((((X.setCell _ (.int .i64 0)).setCell _ (.string ⟨#[]⟩)).setCell _ (.int .i64 0)).setCell _ (.slice none 0 0)) = Z
  obtain ⟨⟨e0,e1,e2,e3'⟩,hZs,hZB,hZo,_,_⟩:=zC4 (o:=0) HRB.out.1 HRB.out.2.1 HRB.out.2.2.1 HRB.out.2.2.2 _ _ _ _ hZ.symm
  simp only [Nat.zero_add] at e1 e2 e3'
  have HZB:=hid (hZB w.heap.size w (by omega) HKX.out)
  clear hZ hZs hZB hZo
  refine bodyPost_ret (v:=.tuple #[.agg #[.int .i64 0,.string ⟨#[]⟩,.int .i64 0,.slice none 0 0],.int .i64 e3]) (by simp [results,Tryz.results45,go_sem,e0,e1,e2,e3']) rfl ?_
  rw [((HA.out.2 (by trivial)).2 (by trivial)).1 HE3.out]
  exact ⟨_,rfl,zAa.nil_ 0 (Nat.zero_le _) none,HZB.out⟩
 subst he3
 rcases Decidable.em (e4 = 0) with he4 | he4
 case inr =>
  have HE4:=hid he4
  have i0:(e4 != 0) = true:=by simpa using he4
  go_enter Tryz.func45,Tryz.ntmps45
  go_wp2_with fail
  refine (C1.out _ HB0.out).mono ?_
  rintro e w1 ⟨rfl,hb1⟩
  have HT1:=hid hb1
  clear hb1 m0 m1 m2 m3 o0 o1 o2 o3 o4 o5 o6 o7
  obtain ⟨⟨m0,m1,m2,m3⟩,⟨o0,o1,o2,o3,o4,o5,o6,o7⟩,hrb,⟨f0,f1,f2,f3⟩,hbw⟩:=KB.out w1 HT1.out
  have HRB:=hid hrb
  obtain ⟨r0,r1,r2,r3⟩:=hrb
  have HK1:=hid hbw
  clear hbw
  go_wp2_with fail
  refine (C2.out _ HK1.out).mono ?_
  rintro e w2 ⟨rfl,hb2⟩
  have HT2:=hid (HT1.out.trans (hb2.mono HT1.out.size))
  clear hb2
  clear m0 m1 m2 m3 o0 o1 o2 o3 o4 o5 o6 o7 r0 r1 r2 r3 f0 f1 f2 f3 HRB
  obtain ⟨⟨m0,m1,m2,m3⟩,⟨o0,o1,o2,o3,o4,o5,o6,o7⟩,hrb,⟨f0,f1,f2,f3⟩,hbw⟩:=KB.out w2 HT2.out
  have HRB:=hid hrb
  obtain ⟨r0,r1,r2,r3⟩:=hrb
  have HK2:=hid hbw
  clear hbw
  go_wp2_with fail
  refine (C3.out _ HK2.out).mono ?_
  intro e w3 h3
  obtain ⟨v3,rfl,hr3,hb3⟩:∃ v,e = .returned (.tuple #[.agg #[.int .i64 rk,.string rx,.int .i64 rc,v],.int .i64 0])∧zAa zAb w3 S rs v∧Below w2.heap.size w2 w3:=h3
  obtain ⟨A3,c3,rfl⟩:=hr3.form
  have HT3:=hid (HT2.out.trans (hb3.mono HT2.out.size))
  have HR3:=hid hr3
  have HK3:=hid (zAq HK2.out hb3)
  clear hb3 hr3
  clear m0 m1 m2 m3 o0 o1 o2 o3 o4 o5 o6 o7 r0 r1 r2 r3 f0 f1 f2 f3 HRB
  go_upto_region 6 with fail
  obtain ⟨X,hX⟩:∃ X,w3.alloc (Obj.cells #[.int .i64 rk,.string rx,.int .i64 rc,.slice A3 rs.length c3] 24) = X:=⟨_,rfl⟩
  rw [hX]
  have hXB:Below w3.heap.size w3 X:=by rw [← hX];exact blA _ _
  have hx3:X.cell? ⟨w3.heap.size,3,none⟩ = some (.slice A3 rs.length c3):=by rw [← hX];exact newC _ _ _ _ _ rfl
  have HTX:=hid (HT3.out.trans (hXB.mono HT3.out.size))
  have HRX:Hid (zAa zAb X S rs (.slice A3 rs.length c3)):=HR3.out.keep (fun q hq=>hXB.cell (Nat.lt_of_lt_of_le (HSS.out _ hq) HK3.out.size)) (fun _ h=>h)
  clear hX hXB
  obtain ⟨⟨m0,m1,m2,m3⟩,⟨o0,o1,o2,o3,o4,o5,o6,o7⟩,hrb,⟨f0,f1,f2,f3⟩,hbw⟩:=KB.out X HTX.out
  have HRB:=hid hrb
  obtain ⟨r0,r1,r2,r3⟩:=hrb
  have HKX:=hid hbw
  clear hbw
  go_wp2_with fail
  refine (C4.out _ _ _ HKX.out (by trivial) HRX.out).mono ?_
  intro e w4 h4
  obtain ⟨v4,rfl,hr4,hb4⟩:∃ v,e = .returned (.tuple #[v,.int .i64 e4])∧zAa zAb w4 (NS S X.heap.size w4) L v∧Below X.heap.size X w4:=h4
  obtain ⟨A4,c4,rfl⟩:=hr4.form
  have HT4:=hid (HTX.out.trans (hb4.mono HTX.out.size))
  have HR4:=hid hr4
  have HX4:=hid hb4.size
  clear hb4 hr4 hx3
  clear m0 m1 m2 m3 o0 o1 o2 o3 o4 o5 o6 o7 r0 r1 r2 r3 f0 f1 f2 f3 HRB
  obtain ⟨⟨m0,m1,m2,m3⟩,⟨o0,o1,o2,o3,o4,o5,o6,o7⟩,hrb,⟨f0,f1,f2,f3⟩,hbw⟩:=KB.out w4 HT4.out
  have HRB:=hid hrb
  obtain ⟨r0,r1,r2,r3⟩:=hrb
  have HK4:=hid hbw
  clear hbw
  go_wp2_with fail
  generalize hZ:((((w4.setCell _ (.int .i64 0)).setCell _ (.string ⟨#[]⟩)).setCell _ (.int .i64 0)).setCell _ (.slice none 0 0)) = Z
  obtain ⟨⟨e0,e1,e2,e3'⟩,hZs,hZB,hZo,_,_⟩:=zC4 (o:=0) HRB.out.1 HRB.out.2.1 HRB.out.2.2.1 HRB.out.2.2.2 _ _ _ _ hZ.symm
  simp only [Nat.zero_add] at e1 e2 e3'
  have HZB:=hid (hZB w.heap.size w (by omega) HK4.out)
  clear hZ hZs hZB hZo
  refine bodyPost_ret (v:=.tuple #[.agg #[.int .i64 0,.string ⟨#[]⟩,.int .i64 0,.slice none 0 0],.int .i64 e4]) (by simp [results,Tryz.results45,go_sem,e0,e1,e2,e3']) rfl ?_
  rw [(((HA.out.2 (by trivial)).2 (by trivial)).2 (by trivial)).1 HE4.out]
  exact ⟨_,rfl,zAa.nil_ 0 (Nat.zero_le _) none,HZB.out⟩
 subst he4
 cases bO
 ·go_enter Tryz.func45,Tryz.ntmps45
  go_wp2_with fail
  refine (C1.out _ HB0.out).mono ?_
  rintro e w1 ⟨rfl,hb1⟩
  have HT1:=hid hb1
  clear hb1 m0 m1 m2 m3 o0 o1 o2 o3 o4 o5 o6 o7
  obtain ⟨⟨m0,m1,m2,m3⟩,⟨o0,o1,o2,o3,o4,o5,o6,o7⟩,hrb,⟨f0,f1,f2,f3⟩,hbw⟩:=KB.out w1 HT1.out
  have HRB:=hid hrb
  obtain ⟨r0,r1,r2,r3⟩:=hrb
  have HK1:=hid hbw
  clear hbw
  go_wp2_with fail
  refine (C2.out _ HK1.out).mono ?_
  rintro e w2 ⟨rfl,hb2⟩
  have HT2:=hid (HT1.out.trans (hb2.mono HT1.out.size))
  clear hb2
  clear m0 m1 m2 m3 o0 o1 o2 o3 o4 o5 o6 o7 r0 r1 r2 r3 f0 f1 f2 f3 HRB
  obtain ⟨⟨m0,m1,m2,m3⟩,⟨o0,o1,o2,o3,o4,o5,o6,o7⟩,hrb,⟨f0,f1,f2,f3⟩,hbw⟩:=KB.out w2 HT2.out
  have HRB:=hid hrb
  obtain ⟨r0,r1,r2,r3⟩:=hrb
  have HK2:=hid hbw
  clear hbw
  go_wp2_with fail
  refine (C3.out _ HK2.out).mono ?_
  intro e w3 h3
  obtain ⟨v3,rfl,hr3,hb3⟩:∃ v,e = .returned (.tuple #[.agg #[.int .i64 rk,.string rx,.int .i64 rc,v],.int .i64 0])∧zAa zAb w3 S rs v∧Below w2.heap.size w2 w3:=h3
  obtain ⟨A3,c3,rfl⟩:=hr3.form
  have HT3:=hid (HT2.out.trans (hb3.mono HT2.out.size))
  have HR3:=hid hr3
  have HK3:=hid (zAq HK2.out hb3)
  clear hb3 hr3
  clear m0 m1 m2 m3 o0 o1 o2 o3 o4 o5 o6 o7 r0 r1 r2 r3 f0 f1 f2 f3 HRB
  go_upto_region 6 with fail
  obtain ⟨X,hX⟩:∃ X,w3.alloc (Obj.cells #[.int .i64 rk,.string rx,.int .i64 rc,.slice A3 rs.length c3] 24) = X:=⟨_,rfl⟩
  rw [hX]
  have hXB:Below w3.heap.size w3 X:=by rw [← hX];exact blA _ _
  have hx3:X.cell? ⟨w3.heap.size,3,none⟩ = some (.slice A3 rs.length c3):=by rw [← hX];exact newC _ _ _ _ _ rfl
  have HTX:=hid (HT3.out.trans (hXB.mono HT3.out.size))
  have HRX:Hid (zAa zAb X S rs (.slice A3 rs.length c3)):=HR3.out.keep (fun q hq=>hXB.cell (Nat.lt_of_lt_of_le (HSS.out _ hq) HK3.out.size)) (fun _ h=>h)
  clear hX hXB
  obtain ⟨⟨m0,m1,m2,m3⟩,⟨o0,o1,o2,o3,o4,o5,o6,o7⟩,hrb,⟨f0,f1,f2,f3⟩,hbw⟩:=KB.out X HTX.out
  have HRB:=hid hrb
  obtain ⟨r0,r1,r2,r3⟩:=hrb
  have HKX:=hid hbw
  clear hbw
  go_wp2_with fail
  refine (C4.out _ _ _ HKX.out (by trivial) HRX.out).mono ?_
  intro e w4 h4
  obtain ⟨v4,rfl,hr4,hb4⟩:∃ v,e = .returned (.tuple #[v,.int .i64 0])∧zAa zAb w4 (NS S X.heap.size w4) L v∧Below X.heap.size X w4:=h4
  obtain ⟨A4,c4,rfl⟩:=hr4.form
  have HT4:=hid (HTX.out.trans (hb4.mono HTX.out.size))
  have HR4:=hid hr4
  have HX4:=hid hb4.size
  clear hb4 hr4 hx3
  clear m0 m1 m2 m3 o0 o1 o2 o3 o4 o5 o6 o7 r0 r1 r2 r3 f0 f1 f2 f3 HRB
  obtain ⟨⟨m0,m1,m2,m3⟩,⟨o0,o1,o2,o3,o4,o5,o6,o7⟩,hrb,⟨f0,f1,f2,f3⟩,hbw⟩:=KB.out w4 HT4.out
  have HRB:=hid hrb
  obtain ⟨r0,r1,r2,r3⟩:=hrb
  have HK4:=hid hbw
  clear hbw
  go_wp2_with fail
  refine (C5.out _ X.heap.size _ _ HK4.out (by trivial) (by trivial) (HCL.out (by trivial)).1 HR4.out).mono ?_
  intro e w5 h5
  obtain ⟨v5,rfl,hr5,hb5⟩:∃ v,e = .returned (.agg #[.int .i64 ok,.string ox,.int .i64 oc,v])∧zAa zAb w5 (NS S X.heap.size w5) os v∧Below w4.heap.size w4 w5:=zEa.ns2 h5 HX4.out
  obtain ⟨A5,c5,rfl⟩:=hr5.form
  have HT5:=hid (HT4.out.trans (hb5.mono HT4.out.size))
  have HR5:=hid hr5
  have HX5:=hid (Nat.le_trans HX4.out hb5.size)
  have HK5':=hid (zAq HK4.out hb5)
  clear hb5 hr5
  clear m0 m1 m2 m3 o0 o1 o2 o3 o4 o5 o6 o7 r0 r1 r2 r3 f0 f1 f2 f3 HRB
  go_upto_region 12 with fail
  obtain ⟨Y,hY⟩:∃ Y,w5.alloc (Obj.cells #[.int .i64 ok,.string ox,.int .i64 oc,.slice A5 os.length c5] 24) = Y:=⟨_,rfl⟩
  rw [hY]
  have hYB:Below w5.heap.size w5 Y:=by rw [← hY];exact blA _ _
  have HYN:Hid (Box4 Y w5.heap.size ok ox oc (.slice A5 os.length c5)):=by show Box4 _ _ _ _ _ _;rw [← hY];exact Box4.new _ _ _ _ _ _
  have HYZ:Hid (w5.heap.size < Y.heap.size):=by show _ < _;rw [← hY];simp
  have HTY:=hid (HT5.out.trans (hYB.mono HT5.out.size))
  have HRY:Hid (zAa zAb Y (NS S X.heap.size Y) os (.slice A5 os.length c5)):=NS.keep HR5.out (fun q hq=>Nat.lt_of_lt_of_le (HSS.out _ hq) HK5'.out.size) hYB
  have HLY:Hid (zAa zAb Y (Lt Y.heap.size) os (.slice A5 os.length c5)):=nsLt HRY.out HSS.out (Nat.le_trans HK5'.out.size hYB.size)
  obtain ⟨n0,n1,n2,n3⟩:=HYN.out
  clear hY hYB
  obtain ⟨⟨m0,m1,m2,m3⟩,⟨o0,o1,o2,o3,o4,o5,o6,o7⟩,hrb,⟨f0,f1,f2,f3⟩,hbw⟩:=KB.out Y HTY.out
  have HRB:=hid hrb
  obtain ⟨r0,r1,r2,r3⟩:=hrb
  have HKY:=hid hbw
  clear hbw
  go_wp2_with fail
  refine (C6.out _ _ _ HLY.out (HCL.out (by trivial)).2).mono ?_
  rintro e w6 ⟨rfl,hb6⟩
  have HT6:=hid (HTY.out.trans (hb6.mono HTY.out.size))
  obtain ⟨n0,n1,n2,n3⟩:=HYN.out.below hb6 HYZ.out
  have HR6:=hid (NS.keep HRY.out (fun q hq=>Nat.lt_of_lt_of_le (HSS.out _ hq) HKY.out.size) hb6)
  have HX6:Hid (X.heap.size≤w6.heap.size∧w.heap.size + 1 + 1 + 1≤X.heap.size):=⟨by have:=HX5.out;have:=HYZ.out;have:=hb6.size;omega,by have:=HTX.out.size;have:=HZ0.out;omega⟩
  clear hb6
  clear m0 m1 m2 m3 o0 o1 o2 o3 o4 o5 o6 o7 r0 r1 r2 r3 f0 f1 f2 f3 HRB
  obtain ⟨⟨m0,m1,m2,m3⟩,⟨o0,o1,o2,o3,o4,o5,o6,o7⟩,hrb,⟨f0,f1,f2,f3⟩,hbw⟩:=KB.out w6 HT6.out
  have HRB:=hid hrb
  obtain ⟨r0,r1,r2,r3⟩:=hrb
  have HK6:=hid hbw
  clear hbw
  go_wp2_with fail
  generalize hZ:((((w6.setCell _ (.int .i64 0)).setCell _ (.string ⟨#[]⟩)).setCell _ (.int .i64 0)).setCell _ (.slice none 0 0)) = Z
  obtain ⟨⟨e0,e1,e2,e3'⟩,hZs,hZB,hZo,_,_⟩:=zC4 (o:=0) HRB.out.1 HRB.out.2.1 HRB.out.2.2.1 HRB.out.2.2.2 _ _ _ _ hZ.symm
  simp only [Nat.zero_add] at e1 e2 e3'
  have HZB:=hid (hZB w.heap.size w (by omega) HK6.out)
  clear hZ hZs hZB hZo
  refine bodyPost_ret (v:=.tuple #[.agg #[.int .i64 0,.string ⟨#[]⟩,.int .i64 0,.slice none 0 0],.int .i64 6]) (by simp [results,Tryz.results45,go_sem,e0,e1,e2,e3']) rfl ?_
  rw [((((HA.out.2 (by trivial)).2 (by trivial)).2 (by trivial)).2 (by trivial)).1 (by trivial)]
  exact ⟨_,rfl,zAa.nil_ 0 (Nat.zero_le _) none,HZB.out⟩
 ·go_enter Tryz.func45,Tryz.ntmps45
  go_wp2_with fail
  refine (C1.out _ HB0.out).mono ?_
  rintro e w1 ⟨rfl,hb1⟩
  have HT1:=hid hb1
  clear hb1 m0 m1 m2 m3 o0 o1 o2 o3 o4 o5 o6 o7
  obtain ⟨⟨m0,m1,m2,m3⟩,⟨o0,o1,o2,o3,o4,o5,o6,o7⟩,hrb,⟨f0,f1,f2,f3⟩,hbw⟩:=KB.out w1 HT1.out
  have HRB:=hid hrb
  obtain ⟨r0,r1,r2,r3⟩:=hrb
  have HK1:=hid hbw
  clear hbw
  go_wp2_with fail
  refine (C2.out _ HK1.out).mono ?_
  rintro e w2 ⟨rfl,hb2⟩
  have HT2:=hid (HT1.out.trans (hb2.mono HT1.out.size))
  clear hb2
  clear m0 m1 m2 m3 o0 o1 o2 o3 o4 o5 o6 o7 r0 r1 r2 r3 f0 f1 f2 f3 HRB
  obtain ⟨⟨m0,m1,m2,m3⟩,⟨o0,o1,o2,o3,o4,o5,o6,o7⟩,hrb,⟨f0,f1,f2,f3⟩,hbw⟩:=KB.out w2 HT2.out
  have HRB:=hid hrb
  obtain ⟨r0,r1,r2,r3⟩:=hrb
  have HK2:=hid hbw
  clear hbw
  go_wp2_with fail
  refine (C3.out _ HK2.out).mono ?_
  intro e w3 h3
  obtain ⟨v3,rfl,hr3,hb3⟩:∃ v,e = .returned (.tuple #[.agg #[.int .i64 rk,.string rx,.int .i64 rc,v],.int .i64 0])∧zAa zAb w3 S rs v∧Below w2.heap.size w2 w3:=h3
  obtain ⟨A3,c3,rfl⟩:=hr3.form
  have HT3:=hid (HT2.out.trans (hb3.mono HT2.out.size))
  have HR3:=hid hr3
  have HK3:=hid (zAq HK2.out hb3)
  clear hb3 hr3
  clear m0 m1 m2 m3 o0 o1 o2 o3 o4 o5 o6 o7 r0 r1 r2 r3 f0 f1 f2 f3 HRB
  go_upto_region 6 with fail
  obtain ⟨X,hX⟩:∃ X,w3.alloc (Obj.cells #[.int .i64 rk,.string rx,.int .i64 rc,.slice A3 rs.length c3] 24) = X:=⟨_,rfl⟩
  rw [hX]
  have hXB:Below w3.heap.size w3 X:=by rw [← hX];exact blA _ _
  have hx3:X.cell? ⟨w3.heap.size,3,none⟩ = some (.slice A3 rs.length c3):=by rw [← hX];exact newC _ _ _ _ _ rfl
  have HTX:=hid (HT3.out.trans (hXB.mono HT3.out.size))
  have HRX:Hid (zAa zAb X S rs (.slice A3 rs.length c3)):=HR3.out.keep (fun q hq=>hXB.cell (Nat.lt_of_lt_of_le (HSS.out _ hq) HK3.out.size)) (fun _ h=>h)
  clear hX hXB
  obtain ⟨⟨m0,m1,m2,m3⟩,⟨o0,o1,o2,o3,o4,o5,o6,o7⟩,hrb,⟨f0,f1,f2,f3⟩,hbw⟩:=KB.out X HTX.out
  have HRB:=hid hrb
  obtain ⟨r0,r1,r2,r3⟩:=hrb
  have HKX:=hid hbw
  clear hbw
  go_wp2_with fail
  refine (C4.out _ _ _ HKX.out (by trivial) HRX.out).mono ?_
  intro e w4 h4
  obtain ⟨v4,rfl,hr4,hb4⟩:∃ v,e = .returned (.tuple #[v,.int .i64 0])∧zAa zAb w4 (NS S X.heap.size w4) L v∧Below X.heap.size X w4:=h4
  obtain ⟨A4,c4,rfl⟩:=hr4.form
  have HT4:=hid (HTX.out.trans (hb4.mono HTX.out.size))
  have HR4:=hid hr4
  have HX4:=hid hb4.size
  clear hb4 hr4 hx3
  clear m0 m1 m2 m3 o0 o1 o2 o3 o4 o5 o6 o7 r0 r1 r2 r3 f0 f1 f2 f3 HRB
  obtain ⟨⟨m0,m1,m2,m3⟩,⟨o0,o1,o2,o3,o4,o5,o6,o7⟩,hrb,⟨f0,f1,f2,f3⟩,hbw⟩:=KB.out w4 HT4.out
  have HRB:=hid hrb
  obtain ⟨r0,r1,r2,r3⟩:=hrb
  have HK4:=hid hbw
  clear hbw
  go_wp2_with fail
  refine (C5.out _ X.heap.size _ _ HK4.out (by trivial) (by trivial) (HCL.out (by trivial)).1 HR4.out).mono ?_
  intro e w5 h5
  obtain ⟨v5,rfl,hr5,hb5⟩:∃ v,e = .returned (.agg #[.int .i64 ok,.string ox,.int .i64 oc,v])∧zAa zAb w5 (NS S X.heap.size w5) os v∧Below w4.heap.size w4 w5:=zEa.ns2 h5 HX4.out
  obtain ⟨A5,c5,rfl⟩:=hr5.form
  have HT5:=hid (HT4.out.trans (hb5.mono HT4.out.size))
  have HR5:=hid hr5
  have HX5:=hid (Nat.le_trans HX4.out hb5.size)
  have HK5':=hid (zAq HK4.out hb5)
  clear hb5 hr5
  clear m0 m1 m2 m3 o0 o1 o2 o3 o4 o5 o6 o7 r0 r1 r2 r3 f0 f1 f2 f3 HRB
  go_upto_region 12 with fail
  obtain ⟨Y,hY⟩:∃ Y,w5.alloc (Obj.cells #[.int .i64 ok,.string ox,.int .i64 oc,.slice A5 os.length c5] 24) = Y:=⟨_,rfl⟩
  rw [hY]
  have hYB:Below w5.heap.size w5 Y:=by rw [← hY];exact blA _ _
  have HYN:Hid (Box4 Y w5.heap.size ok ox oc (.slice A5 os.length c5)):=by show Box4 _ _ _ _ _ _;rw [← hY];exact Box4.new _ _ _ _ _ _
  have HYZ:Hid (w5.heap.size < Y.heap.size):=by show _ < _;rw [← hY];simp
  have HTY:=hid (HT5.out.trans (hYB.mono HT5.out.size))
  have HRY:Hid (zAa zAb Y (NS S X.heap.size Y) os (.slice A5 os.length c5)):=NS.keep HR5.out (fun q hq=>Nat.lt_of_lt_of_le (HSS.out _ hq) HK5'.out.size) hYB
  have HLY:Hid (zAa zAb Y (Lt Y.heap.size) os (.slice A5 os.length c5)):=nsLt HRY.out HSS.out (Nat.le_trans HK5'.out.size hYB.size)
  obtain ⟨n0,n1,n2,n3⟩:=HYN.out
  clear hY hYB
  obtain ⟨⟨m0,m1,m2,m3⟩,⟨o0,o1,o2,o3,o4,o5,o6,o7⟩,hrb,⟨f0,f1,f2,f3⟩,hbw⟩:=KB.out Y HTY.out
  have HRB:=hid hrb
  obtain ⟨r0,r1,r2,r3⟩:=hrb
  have HKY:=hid hbw
  clear hbw
  go_wp2_with fail
  refine (C6.out _ _ _ HLY.out (HCL.out (by trivial)).2).mono ?_
  rintro e w6 ⟨rfl,hb6⟩
  have HT6:=hid (HTY.out.trans (hb6.mono HTY.out.size))
  obtain ⟨n0,n1,n2,n3⟩:=HYN.out.below hb6 HYZ.out
  have HR6:=hid (NS.keep HRY.out (fun q hq=>Nat.lt_of_lt_of_le (HSS.out _ hq) HKY.out.size) hb6)
  have HX6:Hid (X.heap.size≤w6.heap.size∧w.heap.size + 1 + 1 + 1≤X.heap.size):=⟨by have:=HX5.out;have:=HYZ.out;have:=hb6.size;omega,by have:=HTX.out.size;have:=HZ0.out;omega⟩
  clear hb6
  clear m0 m1 m2 m3 o0 o1 o2 o3 o4 o5 o6 o7 r0 r1 r2 r3 f0 f1 f2 f3 HRB
  obtain ⟨⟨m0,m1,m2,m3⟩,⟨o0,o1,o2,o3,o4,o5,o6,o7⟩,hrb,⟨f0,f1,f2,f3⟩,hbw⟩:=KB.out w6 HT6.out
  have HRB:=hid hrb
  obtain ⟨r0,r1,r2,r3⟩:=hrb
  have HK6:=hid hbw
  clear hbw
  go_wp2_with fail
  generalize hZ:((((w6.setCell _ (.int .i64 ok)).setCell _ (.string ox)).setCell _ (.int .i64 oc)).setCell _ (.slice A5 os.length c5)) = Z
  obtain ⟨⟨e0,e1,e2,e3'⟩,hZs,hZB,hZo,_,_⟩:=zC4 (o:=0) HRB.out.1 HRB.out.2.1 HRB.out.2.2.1 HRB.out.2.2.2 _ _ _ _ hZ.symm
  simp only [Nat.zero_add] at e1 e2 e3'
  have HZB:=hid (hZB w.heap.size w (by omega) HK6.out)
  have HZO:=hid hZo
  have HZS:=hid hZs
  clear hZ hZs hZB hZo
  refine bodyPost_ret (v:=.tuple #[.agg #[.int .i64 ok,.string ox,.int .i64 oc,.slice A5 os.length c5],.int .i64 0]) (by simp [results,Tryz.results45,go_sem,e0,e1,e2,e3']) rfl ?_
  rw [((((HA.out.2 (by trivial)).2 (by trivial)).2 (by trivial)).2 (by trivial)).2 (by trivial)]
  have hx6:=HX6.out
  have hzs:=HZS.out
  refine ⟨_,rfl,HR6.out.keep (fun q hq=>HZO.out q ?_) (fun q hq=>?_),HZB.out⟩
  ·rcases hq with hq | hq
   ·have:=HSS.out _ hq;omega
   ·omega
  ·rcases hq with hq | hq
   ·exact .inl hq
   ·exact .inr ⟨by omega,by omega⟩
def goS:Tree→List OpD→Tree × Int
 | t,[]=>(t,0)
 | t,op :: ops=>if (zA8 t op).2≠0 then (zAx,(zA8 t op).2) else goS (zA8 t op).1 ops
def zBn (t:Tree) (ops:List OpD):Tree × Int:=if zAf t = false then (zAx,1) else goS t ops
def zIx (w:World) (r:Tree × Int) (e:Ending) (w':World):Prop :=
 ∃ v i,e = .returned (.tuple #[.agg #[.int .i64 r.1.kind,.string r.1.text,.int .i64 r.1.cols,v],.int .i64 i,.int .i64 r.2])∧zAa zAb w' (Lt w'.heap.size) r.1.kids v∧Below w.heap.size w w'
def ApplyAllN (S:Nat→Prop) (w:World) (r:Tree × Int) (e:Ending) (w':World):Prop :=
 ∃ v i,e = .returned (.tuple #[.agg #[.int .i64 r.1.kind,.string r.1.text,.int .i64 r.1.cols,v],.int .i64 i,.int .i64 r.2])∧zAa zAb w' (NS S w.heap.size w') r.1.kids v∧Below w.heap.size w w'
theorem zJy {t:Tree} {op:OpD} (hok:zAu t) (h:(zA8 t op).2 = 0):zAf (zA8 t op).1 = true∧zAu (zA8 t op).1:=by
 unfold zA8 at h ⊢
 split at h
 ·simp at h
 rename_i h1
 rw [if_neg h1]
 split at h
 ·simp at h
 rename_i h2
 rw [if_neg h2]
 split at h
 ·rename_i h3;exact absurd h h3
 rename_i h3
 rw [if_neg h3]
 split at h
 ·rename_i h4;exact absurd h h4
 rename_i h4
 rw [if_neg h4]
 split at h
 ·simp at h
 rename_i h5
 rw [if_neg h5]
 exact ⟨by simpa using h5,zKc t op.row _ hok⟩
theorem zP4 {w:World} {S:Nat→Prop} {ops:List OpD} {cs:List Value} (h4:zAw opE w S ops cs) {k:Nat} (hk:k < ops.length):ops[k].text.size≤maxLen:=by
 obtain ⟨c,_,hR,_⟩:=h4.at_ hk
 obtain ⟨vr,vn,rfl,h1,h2,h3',h4',h5,h6,h7,h8⟩:=hR
 exact h6
theorem zIw.parts {S:Nat→Prop} {W w':World} {k:Int} {x:ByteArray} {c:Int} {ts:List Tree} {er:Int} {e:Ending} (h:zIw S W.drew (.mk k x c ts,er) e w'):∃ v,e = .returned (.tuple #[.agg #[.int .i64 k,.string x,.int .i64 c,v],.int .i64 er])∧zAa zAb w' (NS S W.heap.size w') ts v∧Below W.heap.size W w':=by
 obtain ⟨v,h1,h2,h3⟩:=h
 exact ⟨v,h1,h2,zC7 h3⟩
set_option maxHeartbeats 8000000 in
theorem zKr (t : Tree) (ops : List OpD) (A Ao : Option Addr) (cap co : Nat) (w : World) (S : Nat → Prop) (hSl : ∀ q, S q → q < w.heap.size) (hv : zAa zAb w S t.kids (.slice A t.kids.length cap)) (hok : zAu t) (hct : zAe t ≤ 900000) (ho : zAa opE w S ops (.slice Ao ops.length co)) (hol : ops.length ≤ 1000) (hcn : ∀ k (hk : k < ops.length), zAd ops[k].nodes ≤ 100000) :
    Calls Tryz.prog 16 #[.agg #[.int .i64 t.kind, .string t.text, .int .i64 t.cols, .slice A t.kids.length cap], .slice Ao ops.length co] w (ApplyAllN S w (zBn t ops)) := by
  have C1 : Hid (∀ W, Below w.heap.size w W → Calls Tryz.prog 35 #[.agg #[.int .i64 t.kind, .string t.text, .int .i64 t.cols, .slice A t.kids.length cap]] W fun e w' => e = .returned (.bool (zAf t)) ∧ Below W.heap.size W w') := fun W hW => zDx t A cap W (hv.keep (fun q hq => hW.cell (hSl _ hq)) (fun q hq => Nat.lt_of_lt_of_le (hSl q hq) hW.size)) hok.2.2 (by omega)
  have HA : Hid ((zAf t = false → zBn t ops = (zAx, 1)) ∧ (zAf t = true → zBn t ops = goS t ops)) := ⟨fun h => if_pos h, fun h => if_neg (by simp [h])⟩
  generalize zBn t ops = RES at *
  generalize hbV : zAf t = bV at *
  generalize hW0 : (w.alloc (Obj.cells #[.int .i64 t.kind, .string t.text, .int .i64 t.cols, .slice A t.kids.length cap] 24)).alloc (Obj.cells #[.int .i64 0, .string ⟨#[]⟩, .int .i64 0, .slice none 0 0] 24) = W0
  have hz0 : W0.heap.size = w.heap.size + 1 + 1 := by rw [← hW0]; simp
  have hB0 : Below w.heap.size w W0 := by rw [← hW0]; exact zAp (blA _ _) _
  have hbT : Box4 W0 w.heap.size t.kind t.text t.cols (.slice A t.kids.length cap) ∧ zCz W0 w.heap.size := by
    rw [← hW0]
    exact ⟨(Box4.new w _ _ _ _ _).below (blA _ _) (by simp), (zCz.new w _ _).below (blA _ _) (by simp)⟩
  have hbR : Box4 W0 (w.heap.size + 1) 0 ⟨#[]⟩ 0 (.slice none 0 0) ∧ zCz W0 (w.heap.size + 1) := by
    rw [← hW0]
    have h := Box4.new (w.alloc (Obj.cells #[.int .i64 t.kind, .string t.text, .int .i64 t.cols, .slice A t.kids.length cap] 24)) 0 ⟨#[]⟩ 0 (.slice none 0 0) 24
    have h2 := zCz.new (w.alloc (Obj.cells #[.int .i64 t.kind, .string t.text, .int .i64 t.cols, .slice A t.kids.length cap] 24)) #[.int .i64 0, .string ⟨#[]⟩, .int .i64 0, .slice none 0 0] 24
    exact ⟨by simpa using h, by simpa using h2⟩
  have KB : Hid (∀ W, Below W0.heap.size W0 W → (Box4 W w.heap.size t.kind t.text t.cols (.slice A t.kids.length cap) ∧ zCz W w.heap.size) ∧ (Box4 W (w.heap.size + 1) 0 ⟨#[]⟩ 0 (.slice none 0 0) ∧ zCz W (w.heap.size + 1)) ∧ Below w.heap.size w W) := fun W hW =>
    ⟨⟨hbT.1.below hW (by omega), hbT.2.below hW (by omega)⟩, ⟨hbR.1.below hW (by omega), hbR.2.below hW (by omega)⟩, hB0.trans (hW.mono hB0.size)⟩
  obtain ⟨⟨⟨m0, m1, m2, m3⟩, _⟩, _, _⟩ := KB.out W0 (Below.refl _ _)
  have HB0 := hid hB0
  have HZ0 := hid hz0
  cases bV with
  | false =>
    obtain ⟨tk, tx, tc, ts⟩ := t
    simp only [Tree.kind, Tree.text, Tree.cols, Tree.kids] at *
    clear hv hok hct ho hol hcn hz0 hB0 hbT hbR hbV hSl
    go_enter Tryz.func16, Tryz.ntmps16
    go_wp2_with fail
    refine (C1.out _ HB0.out).mono ?_
    rintro e w1 ⟨rfl, hb1⟩
    obtain ⟨_, ⟨hrb, ⟨f0, f1, f2, f3⟩⟩, hbw⟩ := KB.out w1 hb1
    have HRB := hid hrb
    obtain ⟨r0, r1, r2, r3⟩ := hrb
    have HK1 := hid hbw
    clear hb1 hbw m0 m1 m2 m3
    go_wp2_with fail
    generalize hZ : ((((w1.setCell _ (.int .i64 0)).setCell _ (.string ⟨#[]⟩)).setCell _ (.int .i64 0)).setCell _ (.slice none 0 0)) = Z
    obtain ⟨⟨e0, e1, e2, e3⟩, hZs, hZB, hZo, _, _⟩ := zC4 (o := 0) HRB.out.1 HRB.out.2.1 HRB.out.2.2.1 HRB.out.2.2.2 _ _ _ _ hZ.symm
    simp only [Nat.zero_add] at e1 e2 e3
    have HZB := hid (hZB w.heap.size w (by omega) HK1.out)
    clear hZ hZs hZB hZo
    refine bodyPost_ret (v := .tuple #[.agg #[.int .i64 0, .string ⟨#[]⟩, .int .i64 0, .slice none 0 0], .int .i64 0, .int .i64 1]) (by simp [results, Tryz.results16, go_sem, e0, e1, e2, e3]) rfl ?_
    rw [HA.out.1 (by trivial)]
    exact ⟨_, _, rfl, zAa.nil_ 0 (Nat.zero_le _) none, HZB.out⟩
  | true =>
  have HRS : Hid (RES = goS t ops) := HA.out.2 (by trivial)
  have CA : Hid (∀ k (hk : k < ops.length) (n : Tree) (A' Ar An : Option Addr) (c' cr cn : Nat) W (Sx : Nat → Prop), Below w.heap.size w W → (∀ q, Sx q → q < W.heap.size) → (∀ q, S q → Sx q) → zAa zAb W Sx n.kids (.slice A' n.kids.length c') → zAu n → zAf n = true → zAa intE w S ops[k].row (.slice Ar ops[k].row.length cr) → zAa zAb w S ops[k].nodes (.slice An ops[k].nodes.length cn) → In64 ops[k].at_ → In64 ops[k].n →
      Calls Tryz.prog 45 #[.agg #[.int .i64 n.kind, .string n.text, .int .i64 n.cols, .slice A' n.kids.length c'], .agg (opC ops[k] (.slice Ar ops[k].row.length cr) (.slice An ops[k].nodes.length cn))] W (zIw Sx W (zA8 n ops[k]))) := by
    intro k hk n A' Ar An c' cr cn W Sx hW hs1 hs2 hn hno hnv hr hnd h1 h2
    obtain ⟨_, _, rso, _, _, _, _, hlso⟩ := ho
    exact apply_any n ops[k] A' Ar An c' cr cn W Sx hs1 hn hno (by have := (zA0 hnv).1; omega) ⟨h1, h2, zP4 hlso hk, hcn k hk⟩ (hr.keep (fun q hq => hW.cell (hSl _ hq)) (fun q hq => Nat.lt_of_lt_of_le (hSl q hq) hW.size)) (hnd.keep (fun q hq => hW.cell (hSl _ hq)) (fun q hq => hs2 q hq))
  have HO : Hid (∀ k (hk : k < ops.length), ∃ g o Ar An cr cn, Ao = some ⟨g, o, none⟩ ∧ g < w.heap.size ∧ (w.cell? ⟨g, o + k * 8, none⟩ = some (.int .i64 ops[k].kind) ∧ w.cell? ⟨g, o + k * 8 + 1, none⟩ = some (.slice Ar ops[k].row.length cr) ∧ w.cell? ⟨g, o + k * 8 + 2, none⟩ = some (.int .i64 ops[k].at_) ∧
      w.cell? ⟨g, o + k * 8 + 3, none⟩ = some (.int .i64 ops[k].n) ∧ w.cell? ⟨g, o + k * 8 + 4, none⟩ = some (.slice An ops[k].nodes.length cn) ∧ w.cell? ⟨g, o + k * 8 + 5, none⟩ = some (.int .i64 ops[k].slot) ∧
      w.cell? ⟨g, o + k * 8 + 6, none⟩ = some (.string ops[k].old) ∧ w.cell? ⟨g, o + k * 8 + 7, none⟩ = some (.string ops[k].text)) ∧
      zAa intE w S ops[k].row (.slice Ar ops[k].row.length cr) ∧ zAa zAb w S ops[k].nodes (.slice An ops[k].nodes.length cn) ∧ In64 ops[k].at_ ∧ In64 ops[k].n) := by
    intro k hk
    obtain ⟨_, _, rso, hq, _, _, hrdo, hlso⟩ := ho
    cases hq
    obtain ⟨g, o, Ar, An, cr, cn, e, hg, p0, p1, p2, p3, p4, p5, p6, p7, hr, hn, h1, h2, _⟩ := zLf hrdo hlso hk
    exact ⟨g, o, Ar, An, cr, cn, e, hSl _ hg, ⟨p0, p1, p2, p3, p4, p5, p6, p7⟩, hr, hn, h1, h2⟩
  have HV := hid hv
  have HSL := hid hSl
  have HOK := hid hok
  have HVT := hid hbV
  obtain ⟨tk, tx, tc, ts⟩ := t
  simp only [Tree.kind, Tree.text, Tree.cols, Tree.kids] at *
  clear hv hok hct ho hcn hz0 hB0 hbT hbR hbV HA hSl
  go_enter Tryz.func16, Tryz.ntmps16
  go_wp2_with fail
  refine (C1.out _ HB0.out).mono ?_
  rintro e w1 ⟨rfl, hb1⟩
  obtain ⟨⟨hx1, hx2⟩, ⟨hx3, hx4⟩, hbw⟩ := KB.out w1 hb1
  have HK1 := hid hbw
  have HX1 := hid hx1
  have HX2 := hid hx2
  have HX3 := hid hx3
  have HX4 := hid hx4
  have HZ1 : Hid (w.heap.size + 1 + 1 ≤ w1.heap.size) := by show _ ≤ _; have := hb1.size; have := HZ0.out; omega
  have HR1 : Hid (zAa zAb w1 (NS S (w.heap.size + 1 + 1) w1) ts (.slice A ts.length cap)) := HV.out.keep (fun q hq => hbw.cell (HSL.out _ hq)) (fun q hq => .inl hq)
  clear hb1 hbw m0 m1 m2 m3 hx1 hx2 hx3 hx4
  go_wp2_with fail
  go_loopw [7] (fun i wr => ∃ (k : Nat) (n : Tree) (A' : Option Addr) (c' : Nat), i = .int .i64 k ∧ k ≤ ops.length ∧ Box4 wr w.heap.size n.kind n.text n.cols (.slice A' n.kids.length c') ∧ zCz wr w.heap.size ∧ Box4 wr (w.heap.size + 1) 0 ⟨#[]⟩ 0 (.slice none 0 0) ∧ zCz wr (w.heap.size + 1) ∧ zAa zAb wr (NS S (w.heap.size + 1 + 1) wr) n.kids (.slice A' n.kids.length c') ∧ zAu n ∧ zAf n = true ∧ RES = goS n (ops.drop k) ∧ Below w.heap.size w wr ∧ w.heap.size + 1 + 1 ≤ wr.heap.size) (fun i _ => ops.length - (intOf i).toNat)
  case atStart => exact ⟨0, .mk tk tx tc ts, A, cap, rfl, Nat.zero_le _, HX1.out, HX2.out, HX3.out, HX4.out, HR1.out, HOK.out, HVT.out, HRS.out, HK1.out, HZ1.out⟩
  case round =>
    obtain ⟨k, n, A', c', rfl, hk, hx1, hx2, hx3, hx4, hrn, hno, hnv, hres, hb, hz⟩ := hrel
    have HX3 := hid hx3
    have HX1 := hid hx1
    have HRN := hid hrn
    have HB := hid hb
    have HNO := hid hno
    have HZ := hid hz
    have HX2 := hid hx2
    have HX4 := hid hx4
    rcases Nat.lt_or_ge k ops.length with hlt | hge
    · obtain ⟨g, o, Ar, An, cr, cn, hao, hgl, ⟨p0, p1, p2, p3, p4, p5, p6, p7⟩, hr, hn, h1, h2⟩ := HO.out k hlt
      subst hao
      have KO : Hid (∀ W, Below w.heap.size w W → W.cell? ⟨g, o + k * 8, none⟩ = some (.int .i64 ops[k].kind) ∧ W.cell? ⟨g, o + k * 8 + 1, none⟩ = some (.slice Ar ops[k].row.length cr) ∧ W.cell? ⟨g, o + k * 8 + 2, none⟩ = some (.int .i64 ops[k].at_) ∧
          W.cell? ⟨g, o + k * 8 + 3, none⟩ = some (.int .i64 ops[k].n) ∧ W.cell? ⟨g, o + k * 8 + 4, none⟩ = some (.slice An ops[k].nodes.length cn) ∧ W.cell? ⟨g, o + k * 8 + 5, none⟩ = some (.int .i64 ops[k].slot) ∧
          W.cell? ⟨g, o + k * 8 + 6, none⟩ = some (.string ops[k].old) ∧ W.cell? ⟨g, o + k * 8 + 7, none⟩ = some (.string ops[k].text)) := fun W hW =>
        ⟨(hW.cell (p := ⟨g, _, none⟩) hgl).trans p0, (hW.cell (p := ⟨g, _, none⟩) hgl).trans p1, (hW.cell (p := ⟨g, _, none⟩) hgl).trans p2, (hW.cell (p := ⟨g, _, none⟩) hgl).trans p3, (hW.cell (p := ⟨g, _, none⟩) hgl).trans p4, (hW.cell (p := ⟨g, _, none⟩) hgl).trans p5, (hW.cell (p := ⟨g, _, none⟩) hgl).trans p6, (hW.cell (p := ⟨g, _, none⟩) hgl).trans p7⟩
      have CK : Hid (∀ W, Below wr.heap.size wr W → Calls Tryz.prog 45 #[.agg #[.int .i64 n.kind, .string n.text, .int .i64 n.cols, .slice A' n.kids.length c'], .agg (opC ops[k] (.slice Ar ops[k].row.length cr) (.slice An ops[k].nodes.length cn))] W (zIw (NS S (w.heap.size + 1 + 1) wr) W (zA8 n ops[k]))) := fun W hW => CA.out k hlt n A' Ar An c' cr cn W (NS S (w.heap.size + 1 + 1) wr) (zAq hb hW) (fun q hq => by
          have hz9 := hW.size
          rcases hq with hq | hq
          · have h9 : q < w.heap.size := HSL.out _ hq
            omega
          · omega) (fun q hq => .inl hq) (hrn.keep (fun q hq => hW.cell (by
          rcases hq with hq | hq
          · have h9 : q.block < w.heap.size := HSL.out _ hq
            omega
          · exact hq.2)) (fun _ h => h)) hno hnv hr hn h1 h2
      have hstep : ((zA8 n ops[k]).2 ≠ 0 → RES = (zAx, (zA8 n ops[k]).2)) ∧ ((zA8 n ops[k]).2 = 0 → RES = goS (zA8 n ops[k]).1 (ops.drop (k + 1)) ∧ zAf (zA8 n ops[k]).1 = true ∧ zAu (zA8 n ops[k]).1) := by
        rw [List.drop_eq_getElem_cons hlt, goS] at hres
        constructor
        · intro h; rw [hres, if_pos h]
        · intro h
          rw [if_neg (by simp [h])] at hres
          exact ⟨hres, zJy hno h⟩
      have HSTEP := hid hstep
      have i5 : decide ((k : Int) < (ops.length : Int)) = true := by rw [decide_eq_true_eq]; omega
      have i6 : (0 : Int) ≤ (k : Int) := by omega
      have i7 : (k : Int) < (ops.length : Int) := by omega
      obtain ⟨p0, p1, p2, p3, p4, p5, p6, p7⟩ := KO.out wr hb
      obtain ⟨m0, m1, m2, m3⟩ := hx1
      clear hstep hres hno hnv hr hn h1 h2 hrn hx2 hx3 hx4 CA HO
      generalize ops[k] = op at *
      generalize zA8 n op = R at *
      obtain ⟨⟨rk, rx, rc, rs⟩, er⟩ := R
      obtain ⟨nk, nx, nc, ns⟩ := n
      obtain ⟨kind, row, at_, n, nodes, slot, old, text⟩ := op
      simp only [opC, Tree.kind, Tree.text, Tree.cols, Tree.kids] at *
      have ne1 : ¬ (wr.heap.size = w.heap.size) := by omega
      have ne2 : ¬ (wr.heap.size = g) := by omega
      clear hb hz
      go_wp2_with fail
      go_region_held3 (fun w' => (w'.cell? ⟨w.heap.size, 0, none⟩ = some (.int .i64 nk) ∧ w'.cell? ⟨w.heap.size, 1, none⟩ = some (.string nx) ∧ w'.cell? ⟨w.heap.size, 2, none⟩ = some (.int .i64 nc) ∧ w'.cell? ⟨w.heap.size, 3, none⟩ = some (.slice A' ns.length c')) ∧
          (w'.cell? ⟨g, o + k * 8, none⟩ = some (.int .i64 kind) ∧ w'.cell? ⟨g, o + k * 8 + 1, none⟩ = some (.slice Ar row.length cr) ∧ w'.cell? ⟨g, o + k * 8 + 2, none⟩ = some (.int .i64 at_) ∧ w'.cell? ⟨g, o + k * 8 + 3, none⟩ = some (.int .i64 n) ∧ w'.cell? ⟨g, o + k * 8 + 4, none⟩ = some (.slice An nodes.length cn) ∧ w'.cell? ⟨g, o + k * 8 + 5, none⟩ = some (.int .i64 slot) ∧ w'.cell? ⟨g, o + k * 8 + 6, none⟩ = some (.string old) ∧ w'.cell? ⟨g, o + k * 8 + 7, none⟩ = some (.string text))) (go_keep) (first
        | (go_at_call 45; refine (CK.out _ (Below.refl _ _).drew).mono ?_; intro e w5 h5; obtain ⟨v5, rfl, hr5, hb5⟩ := zIw.parts h5; obtain ⟨A5, c5, rfl⟩ := hr5.form; have HR5 := hid hr5; have HB5 := hid hb5; have HK5 := hid (zAq HB.out hb5); clear h5 hr5; obtain ⟨m0, m1, m2, m3⟩ := HX1.out.below hb5 (by have := HZ.out; omega); obtain ⟨p0, p1, p2, p3, p4, p5, p6, p7⟩ := KO.out w5 HK5.out; clear hb5)
        | (go_at_call 45; refine (CK.out _ (blA _ _).drew).mono ?_; intro e w5 h5; obtain ⟨v5, rfl, hr5, hb5⟩ := zIw.parts h5; obtain ⟨A5, c5, rfl⟩ := hr5.form; have HR5 := hid hr5; have HQ5 := hid hb5; have HB5 := hid (zAq (blA _ _) hb5); have HK5 := hid (zAq HB.out HB5.out); clear h5 hr5; obtain ⟨m0, m1, m2, m3⟩ := HX1.out.below HB5.out (by have := HZ.out; omega); obtain ⟨p0, p1, p2, p3, p4, p5, p6, p7⟩ := KO.out w5 HK5.out; have hy := (Box4.new wr 0 ⟨#[]⟩ 0 (.slice none 0 0) 24).below hb5 (by simp); have hyf := (zCz.new wr #[.int .i64 0, .string ⟨#[]⟩, .int .i64 0, .slice none 0 0] 24).below hb5 (by simp); have HYB := hid hy; obtain ⟨u0, u1, u2, u3⟩ := hy; obtain ⟨l0, l1, l2, l3⟩ := hyf; clear hb5))
      · obtain ⟨X, hX⟩ : ∃ X, w5.alloc (Obj.cells #[.int .i64 rk, .string rx, .int .i64 rc, .slice A5 rs.length c5] 24) = X := ⟨_, rfl⟩
        rw [hX]
        have hXB : Below w5.heap.size w5 X := by rw [← hX]; exact blA _ _
        have hXM : Box4 X w5.heap.size rk rx rc (.slice A5 rs.length c5) := by rw [← hX]; exact Box4.new _ _ _ _ _ _
        have hXZ : w5.heap.size < X.heap.size := by rw [← hX]; simp
        have hwx : Below wr.heap.size wr X := zAq HB5.out hXB
        have HZX : Hid (w.heap.size + 1 + 1 ≤ X.heap.size) := by show _ ≤ _; have := HZ.out; have := hwx.size; omega
        have HRX : Hid (zAa zAb X (NS S (w.heap.size + 1 + 1) X) rs (.slice A5 rs.length c5)) := HR5.out.keep (fun q hq => hXB.cell (by
          have := HB5.out.size
          have := HK5.out.size
          rcases hq with (hq | hq) | hq
          · exact Nat.lt_of_lt_of_le (HSL.out _ hq) HK5.out.size
          · omega
          · omega)) (fun q hq => by
          have := HB5.out.size
          have := HZ.out
          rcases hq with (hq | hq) | hq
          · exact .inl hq
          · exact .inr ⟨hq.1, by omega⟩
          · exact .inr ⟨by omega, by omega⟩)
        clear hX hXB hXZ m0 m1 m2 m3 p0 p1 p2 p3 p4 p5 p6 p7
        have HKX := hid (zAq HB.out hwx)
        have HY3 := hid (HX3.out.below hwx (by have := HZ.out; omega))
        have HY1 := hid (HX1.out.below hwx (by have := HZ.out; omega))
        have HY2 := hid (HX2.out.below hwx (by have := HZ.out; omega))
        have HY4 := hid (HX4.out.below hwx (by have := HZ.out; omega))
        obtain ⟨x0, x1, x2, x3⟩ := hXM
        clear hwx
        rcases Decidable.em (er = 0) with he | he
        case inr =>
          have i0 : (er != 0) = true := by simpa using he
          have HE := hid he
          obtain ⟨r0, r1, r2, r3⟩ := HY3.out
          obtain ⟨f0, f1, f2, f3⟩ := HY4.out
          clear he
          go_wp2_with fail
          generalize hZ : ((((X.setCell _ (.int .i64 0)).setCell _ (.string ⟨#[]⟩)).setCell _ (.int .i64 0)).setCell _ (.slice none 0 0)) = Z
          obtain ⟨⟨e0, e1, e2, e3⟩, hZs, hZB, hZo, _, _⟩ := zC4 (o := 0) HY3.out.1 HY3.out.2.1 HY3.out.2.2.1 HY3.out.2.2.2 _ _ _ _ hZ.symm
          simp only [Nat.zero_add] at e1 e2 e3
          have HZB := hid (hZB w.heap.size w (by omega) HKX.out)
          clear hZ hZs hZB hZo
          refine bodyPost_ret (v := .tuple #[.agg #[.int .i64 0, .string ⟨#[]⟩, .int .i64 0, .slice none 0 0], .int .i64 k, .int .i64 er]) (by simp [results, Tryz.results16, go_sem, e0, e1, e2, e3]) rfl ?_
          rw [HSTEP.out.1 HE.out]
          exact ⟨_, _, rfl, zAa.nil_ 0 (Nat.zero_le _) none, HZB.out⟩
        subst he
        obtain ⟨y0, y1, y2, y3⟩ := HY1.out
        obtain ⟨f0, f1, f2, f3⟩ := HY2.out
        go_wp2_with fail
        generalize hZ : ((((X.setCell _ (.int .i64 rk)).setCell _ (.string rx)).setCell _ (.int .i64 rc)).setCell _ (.slice A5 rs.length c5)) = Z
        obtain ⟨⟨e0, e1, e2, e3⟩, hZs, hZB, hZo, _, hZf⟩ := zC4 (o := 0) HY1.out.1 HY1.out.2.1 HY1.out.2.2.1 HY1.out.2.2.2 _ _ _ _ hZ.symm
        simp only [Nat.zero_add] at e1 e2 e3
        have HZB := hid (hZB w.heap.size w (by omega) HKX.out)
        have HZO := hid hZo
        have HZS := hid hZs
        have HZF := hid hZf
        have HE4 : Hid (Box4 Z w.heap.size rk rx rc (.slice A5 rs.length c5)) := ⟨e0, e1, e2, e3⟩
        clear hZ hZs hZB hZo hZf
        go_roundw
        case rel =>
          obtain ⟨g1, g2, g3⟩ := HSTEP.out.2 (by trivial)
          refine ⟨k + 1, .mk rk rx rc rs, A5, c5, by go_num, by omega, HE4.out, ?_, ?_, ?_, ?_, g3, g2, g1, HZB.out, ?_⟩
          · exact ⟨(HZF.out _).trans HY2.out.1, (HZF.out _).trans HY2.out.2.1, (HZF.out _).trans HY2.out.2.2.1, (HZF.out _).trans HY2.out.2.2.2⟩
          · exact HY3.out.keep (fun o => HZO.out ⟨w.heap.size + 1, o, none⟩ (by simp))
          · exact ⟨(HZF.out _).trans HY4.out.1, (HZF.out _).trans HY4.out.2.1, (HZF.out _).trans HY4.out.2.2.1, (HZF.out _).trans HY4.out.2.2.2⟩
          · refine HRX.out.keep (fun q hq => HZO.out q ?_) (fun q hq => ?_)
            · rcases hq with hq | hq
              · exact Nat.ne_of_lt (HSL.out _ hq)
              · omega
            · rcases hq with hq | hq
              · exact .inl hq
              · exact .inr ⟨hq.1, by have := HZS.out; omega⟩
          · have := HZS.out; have := HZX.out; omega
        case measure => simp [intOf]; omega
      · obtain ⟨X, hX⟩ : ∃ X, ((((w5.setCell ⟨wr.heap.size, 0, none⟩ (.int .i64 rk)).setCell ⟨wr.heap.size, 1, none⟩ (.string rx)).setCell ⟨wr.heap.size, 2, none⟩ (.int .i64 rc)).setCell ⟨wr.heap.size, 3, none⟩ (.slice A5 rs.length c5)) = X := ⟨_, rfl⟩
        rw [hX]
        obtain ⟨⟨x0, x1, x2, x3⟩, hXs, hXB, hXo, hXr, hXf⟩ := zC4 (o := 0) HYB.out.1 HYB.out.2.1 HYB.out.2.2.1 HYB.out.2.2.2 _ _ _ _ hX.symm
        simp only [Nat.zero_add] at x1 x2 x3
        have hXM : Box4 X wr.heap.size rk rx rc (.slice A5 rs.length c5) := ⟨x0, x1, x2, x3⟩
        have hwx : Below wr.heap.size wr X := hXB wr.heap.size wr (Nat.le_refl _) HB5.out
        have HZX : Hid (w.heap.size + 1 + 1 ≤ X.heap.size) := by show _ ≤ _; have := HZ.out; have := hwx.size; omega
        have HRX : Hid (zAa zAb X (NS S (w.heap.size + 1 + 1) X) rs (.slice A5 rs.length c5)) := HR5.out.keep (fun q hq => hXo q (by
          have := HB.out.size
          rcases hq with (hq | hq) | hq
          · have h9 : q.block < w.heap.size := HSL.out _ hq
            omega
          · omega
          · have h9 := hq.1
            simp at h9
            omega)) (fun q hq => by
          have := HB5.out.size
          have := HZ.out
          rcases hq with (hq | hq) | hq
          · exact .inl hq
          · exact .inr ⟨hq.1, by omega⟩
          · exact .inr ⟨by have h9 := hq.1; simp at h9; omega, by omega⟩)
        clear hX hXB hXs hXo hXr hXf m0 m1 m2 m3 p0 p1 p2 p3 p4 p5 p6 p7 u0 u1 u2 u3 l0 l1 l2 l3 x0 x1 x2 x3 HYB
        have HKX := hid (zAq HB.out hwx)
        have HY3 := hid (HX3.out.below hwx (by have := HZ.out; omega))
        have HY1 := hid (HX1.out.below hwx (by have := HZ.out; omega))
        have HY2 := hid (HX2.out.below hwx (by have := HZ.out; omega))
        have HY4 := hid (HX4.out.below hwx (by have := HZ.out; omega))
        obtain ⟨x0, x1, x2, x3⟩ := hXM
        clear hwx
        rcases Decidable.em (er = 0) with he | he
        case inr =>
          have i0 : (er != 0) = true := by simpa using he
          have HE := hid he
          obtain ⟨r0, r1, r2, r3⟩ := HY3.out
          obtain ⟨f0, f1, f2, f3⟩ := HY4.out
          clear he
          go_wp2_with fail
          generalize hZ : ((((X.setCell _ (.int .i64 0)).setCell _ (.string ⟨#[]⟩)).setCell _ (.int .i64 0)).setCell _ (.slice none 0 0)) = Z
          obtain ⟨⟨e0, e1, e2, e3⟩, hZs, hZB, hZo, _, _⟩ := zC4 (o := 0) HY3.out.1 HY3.out.2.1 HY3.out.2.2.1 HY3.out.2.2.2 _ _ _ _ hZ.symm
          simp only [Nat.zero_add] at e1 e2 e3
          have HZB := hid (hZB w.heap.size w (by omega) HKX.out)
          clear hZ hZs hZB hZo
          refine bodyPost_ret (v := .tuple #[.agg #[.int .i64 0, .string ⟨#[]⟩, .int .i64 0, .slice none 0 0], .int .i64 k, .int .i64 er]) (by simp [results, Tryz.results16, go_sem, e0, e1, e2, e3]) rfl ?_
          rw [HSTEP.out.1 HE.out]
          exact ⟨_, _, rfl, zAa.nil_ 0 (Nat.zero_le _) none, HZB.out⟩
        subst he
        obtain ⟨y0, y1, y2, y3⟩ := HY1.out
        obtain ⟨f0, f1, f2, f3⟩ := HY2.out
        go_wp2_with fail
        generalize hZ : ((((X.setCell _ (.int .i64 rk)).setCell _ (.string rx)).setCell _ (.int .i64 rc)).setCell _ (.slice A5 rs.length c5)) = Z
        obtain ⟨⟨e0, e1, e2, e3⟩, hZs, hZB, hZo, _, hZf⟩ := zC4 (o := 0) HY1.out.1 HY1.out.2.1 HY1.out.2.2.1 HY1.out.2.2.2 _ _ _ _ hZ.symm
        simp only [Nat.zero_add] at e1 e2 e3
        have HZB := hid (hZB w.heap.size w (by omega) HKX.out)
        have HZO := hid hZo
        have HZS := hid hZs
        have HZF := hid hZf
        have HE4 : Hid (Box4 Z w.heap.size rk rx rc (.slice A5 rs.length c5)) := ⟨e0, e1, e2, e3⟩
        clear hZ hZs hZB hZo hZf
        go_roundw
        case rel =>
          obtain ⟨g1, g2, g3⟩ := HSTEP.out.2 (by trivial)
          refine ⟨k + 1, .mk rk rx rc rs, A5, c5, by go_num, by omega, HE4.out, ?_, ?_, ?_, ?_, g3, g2, g1, HZB.out, ?_⟩
          · exact ⟨(HZF.out _).trans HY2.out.1, (HZF.out _).trans HY2.out.2.1, (HZF.out _).trans HY2.out.2.2.1, (HZF.out _).trans HY2.out.2.2.2⟩
          · exact HY3.out.keep (fun o => HZO.out ⟨w.heap.size + 1, o, none⟩ (by simp))
          · exact ⟨(HZF.out _).trans HY4.out.1, (HZF.out _).trans HY4.out.2.1, (HZF.out _).trans HY4.out.2.2.1, (HZF.out _).trans HY4.out.2.2.2⟩
          · refine HRX.out.keep (fun q hq => HZO.out q ?_) (fun q hq => ?_)
            · rcases hq with hq | hq
              · exact Nat.ne_of_lt (HSL.out _ hq)
              · omega
            · rcases hq with hq | hq
              · exact .inl hq
              · exact .inr ⟨hq.1, by have := HZS.out; omega⟩
          · have := HZS.out; have := HZX.out; omega
        case measure => simp [intOf]; omega
    · obtain rfl : k = ops.length := by omega
      have i5 : decide ((ops.length : Int) < (ops.length : Int)) = false := by rw [decide_eq_false_iff_not]; omega
      rw [List.drop_of_length_le (Nat.le_refl _), goS] at hres
      have HRES := hid hres
      obtain ⟨nk, nx, nc, ns⟩ := n
      simp only [Tree.kind, Tree.text, Tree.cols, Tree.kids] at *
      obtain ⟨m0, m1, m2, m3⟩ := hx1
      obtain ⟨r0, r1, r2, r3⟩ := hx3
      obtain ⟨f0, f1, f2, f3⟩ := hx4
      clear hres hno hnv hrn hx2 hb hz CA HO
      go_wp2_with fail
      generalize hZ : ((((wr.setCell _ (.int .i64 nk)).setCell _ (.string nx)).setCell _ (.int .i64 nc)).setCell _ (.slice A' ns.length c')) = Z
      obtain ⟨⟨e0, e1, e2, e3⟩, hZs, hZB, hZo, _, hZf⟩ := zC4 (o := 0) HX3.out.1 HX3.out.2.1 HX3.out.2.2.1 HX3.out.2.2.2 _ _ _ _ hZ.symm
      simp only [Nat.zero_add] at e1 e2 e3
      have HZB := hid (hZB w.heap.size w (by omega) HB.out)
      have HZO := hid hZo
      have HZS := hid hZs
      clear hZ hZs hZB hZo hZf
      refine bodyPost_ret (v := .tuple #[.agg #[.int .i64 nk, .string nx, .int .i64 nc, .slice A' ns.length c'], .int .i64 0, .int .i64 0]) (by simp [results, Tryz.results16, go_sem, e0, e1, e2, e3]) rfl ?_
      rw [HRES.out]
      refine ⟨_, _, rfl, HRN.out.keep (fun q hq => HZO.out q ?_) (fun q hq => ?_), HZB.out⟩
      · rcases hq with hq | hq
        · have h9 : q.block < w.heap.size := HSL.out _ hq
          omega
        · omega
      · have := HZ.out
        have := HZS.out
        rcases hq with hq | hq
        · exact .inl hq
        · exact .inr ⟨by omega, by omega⟩
theorem zMf (t:Tree) (ops:List OpD) (A Ao:Option Addr) (cap co:Nat) (w:World) (hv:zAa zAb w (Lt w.heap.size) t.kids (.slice A t.kids.length cap)) (hok:zAu t) (hct:zAe t≤900000) (ho:zAa opE w (Lt w.heap.size) ops (.slice Ao ops.length co)) (hol:ops.length≤1000) (hcn:∀ k (hk:k < ops.length),zAd ops[k].nodes≤100000) :
  Calls Tryz.prog 16 #[.agg #[.int .i64 t.kind,.string t.text,.int .i64 t.cols,.slice A t.kids.length cap],.slice Ao ops.length co] w (zIx w (zBn t ops)):=by
 refine (zKr t ops A Ao cap co w (Lt w.heap.size) (fun _ h=>h) hv hok hct ho hol hcn).mono ?_
 rintro e w' ⟨v,i,rfl,h1,h2⟩
 exact ⟨v,i,rfl,h1.keep (fun _ _=>rfl) (fun q hq=>hq.elim (fun h=>Nat.lt_of_lt_of_le h h2.size) (fun h=>h.2)),h2⟩
end Go.Proofs.YtbjcioknfjofkaaGreat
