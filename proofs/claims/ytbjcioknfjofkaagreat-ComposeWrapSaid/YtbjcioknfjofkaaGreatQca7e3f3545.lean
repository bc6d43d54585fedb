/- Texts put together. -/
import Derived.Test.YtbjcioknfjofkaaGreatQ368bf61fcf
import Derived.Test.YtbjcioknfjofkaaGreatQc4310db0a8
import Derived.Test.YtbjcioknfjofkaaGreatQ9a2313c63e
import Derived.Test.YtbjcioknfjofkaaGreatQ5ad5a50917
import Derived.Test.YtbjcioknfjofkaaGreatQ591811ba65
set_option linter.unusedVariables false
set_option linter.unusedSimpArgs false
set_option maxRecDepth 100000
namespace Go.Proofs.YtbjcioknfjofkaaGreat
open Go.RowKit
theorem change_any (l:List Tree) (op:OpD) (A Ar An:Option Addr) (cap lr cr cn:Nat) (w:World) (S:Nat→Prop) (hS:∀ q,S q→q < w.heap.size) (hl:SliceR treeE w S l (.slice A l.length cap)) (hn:SliceR treeE w S op.nodes (.slice An op.nodes.length cn)) (hat:In64 op.at_) (hn64:In64 op.n) (htx:op.text.size≤maxLen) (hcl:countsS l≤1000000) (hcn:countsS op.nodes≤1000000) (hf:formedS op = true) :
  Calls Tryz.prog 79 #[.slice A l.length cap,.agg (opC op (.slice Ar lr cr) (.slice An op.nodes.length cn))] w (ChangeP S w (changeS l op)):=by
 obtain ⟨kind,row,at_,n,nodes,slot,old,text⟩:=op
 simp only at *
 unfold formedS at hf
 simp only at hf
 split at hf
 ·rename_i hk
  rcases hk with rfl | rfl
  ·exact chg_ins l row at_ n slot nodes old text A Ar An cap lr cr cn w S hS hl hn hat hcl hcn
  ·exact chg_del l row at_ n slot nodes old text A Ar An cap lr cr cn w S hS hl hn hat hcl hcn
 ·split at hf
  ·rename_i hk
   simp only [Bool.and_eq_true,decide_eq_true_eq] at hf
   rcases hk with rfl | rfl
   ·exact chg_wrap l row at_ n slot nodes old text A Ar An cap lr cr cn w S hS hl hn hat hcl hcn hf.1 hn64 hf.2.1
   ·exact chg_unw l row at_ n slot nodes old text A Ar An cap lr cr cn w S hS hl hn hat hcl hcn hf.1 hf.2.1
  ·split at hf
   ·rename_i hk
    subst hk
    exact chg_set l row at_ n slot nodes old text A Ar An cap lr cr cn w S hS hl hn hat hcl hcn htx
   ·cases hf
def applyS (t:Tree) (op:OpD):Tree × Int :=
 if validS t = false then (zeroT,1)
 else if formedS op = false then (zeroT,4)
 else if (rowRes t op.row).2≠0 then (zeroT,(rowRes t op.row).2)
 else if (changeS (rowRes t op.row).1.kids op).2≠0 then (zeroT,(changeS (rowRes t op.row).1.kids op).2)
 else if validS (putS t op.row (changeS (rowRes t op.row).1.kids op).1) = false then (zeroT,6)
 else (putS t op.row (changeS (rowRes t op.row).1.kids op).1,0)
def ApplyP (S:Nat→Prop) (w:World) (r:Tree × Int) (e:Ending) (w':World):Prop :=
 ∃ v,e = .returned (.tuple #[.agg #[.int .i64 r.1.kind,.string r.1.text,.int .i64 r.1.cols,v],.int .i64 r.2])∧SliceR treeE w' (NS S w.heap.size w') r.1.kids v∧Below w.heap.size w w'
structure OpD.Fits (op:OpD):Prop where
 at_:In64 op.at_
 n:In64 op.n
 text:op.text.size≤maxLen
 nodes:countsS op.nodes≤100000
set_option maxHeartbeats 16000000 in
theorem apply_any (t:Tree) (op:OpD) (A Ar An:Option Addr) (cap cr cn:Nat) (w:World) (S:Nat→Prop) (hS:∀ q,S q→q < w.heap.size) (hv:SliceR treeE w S t.kids (.slice A t.kids.length cap)) (hok:NodeOk t) (hct:countS t≤900000) (hop:op.Fits) (hr:IntsR w (Lt w.heap.size) op.row (.slice Ar op.row.length cr)) (hn:SliceR treeE w S op.nodes (.slice An op.nodes.length cn)) :
  Calls Tryz.prog 45 #[.agg #[.int .i64 t.kind,.string t.text,.int .i64 t.cols,.slice A t.kids.length cap],.agg (opC op (.slice Ar op.row.length cr) (.slice An op.nodes.length cn))] w (ApplyP S w (applyS t op)):=by
 have hSB:∀ {W},Below w.heap.size w W→∀ q,S q→q < W.heap.size:=fun hW q hq=>Nat.lt_of_lt_of_le (hS q hq) hW.size
 have C1:Hid (∀ W,Below w.heap.size w W→Calls Tryz.prog 35 #[.agg #[.int .i64 t.kind,.string t.text,.int .i64 t.cols,.slice A t.kids.length cap]] W fun e w'=>e = .returned (.bool (validS t))∧Below W.heap.size W w'):=fun W hW=>valid_any t A cap W (kidsLt hv hS hW) hok.2.2 (by omega)
 have C2:Hid (∀ W,Below w.heap.size w W→Calls Tryz.prog 78 #[.agg (opC op (.slice Ar op.row.length cr) (.slice An op.nodes.length cn))] W fun e w'=>e = .returned (.bool (formedS op))∧Below W.heap.size W w'):=fun W hW=>formed_any op op.row.length Ar An cr cn W (kidsLt hn hS hW) (Nat.le_trans hop.nodes (by omega))
 have C3:Hid (∀ W,Below w.heap.size w W→Calls Tryz.prog 48 #[.agg #[.int .i64 t.kind,.string t.text,.int .i64 t.cols,.slice A t.kids.length cap],.slice Ar op.row.length cr] W (RowP S W (rowRes t op.row).1.kind (rowRes t op.row).1.text (rowRes t op.row).1.cols (rowRes t op.row).1.kids (rowRes t op.row).2)):=fun W hW=>rRowS_any t op.row A Ar cap cr W S (hSB hW) (kidsOld hv hS hW) hok.2.2 hct (hr.below hW hW.size)
 have C4:Hid (∀ W A' cap',Below w.heap.size w W→formedS op = true→SliceR treeE W S (rowRes t op.row).1.kids (.slice A' (rowRes t op.row).1.kids.length cap')→Calls Tryz.prog 79 #[.slice A' (rowRes t op.row).1.kids.length cap',.agg (opC op (.slice Ar op.row.length cr) (.slice An op.nodes.length cn))] W (ChangeP S W (changeS (rowRes t op.row).1.kids op))):=fun W A' cap' hW hf hl =>
  change_any (rowRes t op.row).1.kids op A' Ar An cap' op.row.length cr cn W S (hSB hW) hl (kidsOld hn hS hW) hop.at_ hop.n hop.text (by have:=rowRes_count t op.row hct;omega) (Nat.le_trans hop.nodes (by omega)) hf
 have C5:Hid (∀ W b A' cap',Below w.heap.size w W→validS t = true→(rowRes t op.row).2 = 0→(changeS (rowRes t op.row).1.kids op).1.length≤1000000→SliceR treeE W (NS S b W) (changeS (rowRes t op.row).1.kids op).1 (.slice A' (changeS (rowRes t op.row).1.kids op).1.length cap') →
   Calls Tryz.prog 80 #[.agg #[.int .i64 t.kind,.string t.text,.int .i64 t.cols,.slice A t.kids.length cap],.slice Ar op.row.length cr,.slice A' (changeS (rowRes t op.row).1.kids op).1.length cap'] W (TreeP (NS S b W) W (putS t op.row (changeS (rowRes t op.row).1.kids op).1))):=fun W b A' cap' hW hvt hre hll hl =>
  put_any op.row t (changeS (rowRes t op.row).1.kids op).1 A A' Ar cap cap' cr W (NS S b W) (fun q hq=>by
   rcases hq with hq | hq
   ·exact hSB hW q hq
   ·exact hq.2) (rowRes_found hvt hre).1 (by omega) hok hll ((kidsOld hv hS hW).keep (fun _ _=>rfl) (fun q hq=>.inl hq)) hl (hr.below hW hW.size)
 have C6:Hid (∀ W A' cap',SliceR treeE W (Lt W.heap.size) (putS t op.row (changeS (rowRes t op.row).1.kids op).1).kids (.slice A' (putS t op.row (changeS (rowRes t op.row).1.kids op).1).kids.length cap')→countS (putS t op.row (changeS (rowRes t op.row).1.kids op).1)≤100000000 →
   Calls Tryz.prog 35 #[.agg #[.int .i64 (putS t op.row (changeS (rowRes t op.row).1.kids op).1).kind,.string (putS t op.row (changeS (rowRes t op.row).1.kids op).1).text,.int .i64 (putS t op.row (changeS (rowRes t op.row).1.kids op).1).cols,.slice A' (putS t op.row (changeS (rowRes t op.row).1.kids op).1).kids.length cap']] W fun e w'=>e = .returned (.bool (validS (putS t op.row (changeS (rowRes t op.row).1.kids op).1)))∧Below W.heap.size W w'):=fun W A' cap' hl hc =>
  valid_any _ A' cap' W hl (putS_ok t op.row _ hok).2.2 (by omega)
 have HCL:Hid (validS t = true→(changeS (rowRes t op.row).1.kids op).1.length≤1000000∧countS (putS t op.row (changeS (rowRes t op.row).1.kids op).1)≤100000000):=fun h=>by
  have h1:=(valid_count h).1
  have h2:=rowRes_count t op.row h1
  have h3:=change_count (rowRes t op.row).1.kids op
  have h4:=countsS_len2 (changeS (rowRes t op.row).1.kids op).1
  have h5:=put_count op.row t (changeS (rowRes t op.row).1.kids op).1
  have h6:=hop.nodes
  constructor <;> omega
 have HA:Hid ((validS t = false→applyS t op = (zeroT,1))∧(validS t = true→(formedS op = false→applyS t op = (zeroT,4))∧(formedS op = true→((rowRes t op.row).2≠0→applyS t op = (zeroT,(rowRes t op.row).2))∧((rowRes t op.row).2 = 0→((changeS (rowRes t op.row).1.kids op).2≠0→applyS t op = (zeroT,(changeS (rowRes t op.row).1.kids op).2)) ∧
   ((changeS (rowRes t op.row).1.kids op).2 = 0→(validS (putS t op.row (changeS (rowRes t op.row).1.kids op).1) = false→applyS t op = (zeroT,6))∧(validS (putS t op.row (changeS (rowRes t op.row).1.kids op).1) = true→applyS t op = (putS t op.row (changeS (rowRes t op.row).1.kids op).1,0))))))):=by
  unfold applyS
  refine ⟨fun h=>if_pos h,fun h=>?_⟩
  rw [if_neg (by simp [h])]
  refine ⟨fun h=>if_pos h,fun h=>?_⟩
  rw [if_neg (by simp [h])]
  refine ⟨fun h=>if_pos h,fun h=>?_⟩
  rw [if_neg (by simp [h])]
  refine ⟨fun h=>if_pos h,fun h=>?_⟩
  rw [if_neg (by simp [h])]
  exact ⟨fun h=>if_pos h,fun h=>if_neg (by simp [h])⟩
 have HSS:=hid hS
 have HRT:Hid ((putS t op.row (changeS (rowRes t op.row).1.kids op).1).kids = (putS t op.row (changeS (rowRes t op.row).1.kids op).1).kids):=rfl
 generalize applyS t op = RES at *
 generalize putS t op.row (changeS (rowRes t op.row).1.kids op).1 = OUT at *
 generalize changeS (rowRes t op.row).1.kids op = CH at *
 generalize rowRes t op.row = RR at *
 generalize hbV:validS t = bV at *
 generalize hbF:formedS op = bF at *
 generalize hbO:validS OUT = bO at *
 obtain ⟨tk,tx,tc,ts⟩:=t
 obtain ⟨kind,row,at_,n,nodes,slot,old,text⟩:=op
 obtain ⟨ok,ox,oc,os⟩:=OUT
 obtain ⟨L,e4⟩:=CH
 obtain ⟨⟨rk,rx,rc,rs⟩,e3⟩:=RR
 simp only [Tree.kind,Tree.text,Tree.cols,Tree.kids] at *
 generalize hW0:((w.alloc (Obj.cells #[.int .i64 tk,.string tx,.int .i64 tc,.slice A ts.length cap] 24)).alloc (Obj.cells (opC ⟨kind,row,at_,n,nodes,slot,old,text⟩ (.slice Ar row.length cr) (.slice An nodes.length cn)) 67)).alloc (Obj.cells #[.int .i64 0,.string ⟨#[]⟩,.int .i64 0,.slice none 0 0] 24) = W0
 have hz0:W0.heap.size = w.heap.size + 1 + 1 + 1:=by rw [← hW0];simp
 have hB0:Below w.heap.size w W0:=by rw [← hW0];exact blAlloc (blAlloc (blA _ _) _) _
 have hbT:Box4 W0 w.heap.size tk tx tc (.slice A ts.length cap):=by
  rw [← hW0]
  exact ((Box4.new w _ _ _ _ _).below (blA _ _) (by simp)).below (blA _ _) (by simp;omega)
 have hbP:OpBox W0 (w.heap.size + 1) ⟨kind,row,at_,n,nodes,slot,old,text⟩ (.slice Ar row.length cr) (.slice An nodes.length cn):=by
  rw [← hW0]
  have h:=(OpBox.new (w.alloc (Obj.cells #[.int .i64 tk,.string tx,.int .i64 tc,.slice A ts.length cap] 24)) ⟨kind,row,at_,n,nodes,slot,old,text⟩ (.slice Ar row.length cr) (.slice An nodes.length cn) 67).below (blA _ (Obj.cells #[.int .i64 0,.string ⟨#[]⟩,.int .i64 0,.slice none 0 0] 24)) (by simp)
  simpa using h
 have hbR:Box4 W0 (w.heap.size + 1 + 1) 0 ⟨#[]⟩ 0 (.slice none 0 0)∧Free4 W0 (w.heap.size + 1 + 1):=by
  rw [← hW0]
  have h:=Box4.new ((w.alloc (Obj.cells #[.int .i64 tk,.string tx,.int .i64 tc,.slice A ts.length cap] 24)).alloc (Obj.cells (opC ⟨kind,row,at_,n,nodes,slot,old,text⟩ (.slice Ar row.length cr) (.slice An nodes.length cn)) 67)) 0 ⟨#[]⟩ 0 (.slice none 0 0) 24
  have h2:=Free4.new ((w.alloc (Obj.cells #[.int .i64 tk,.string tx,.int .i64 tc,.slice A ts.length cap] 24)).alloc (Obj.cells (opC ⟨kind,row,at_,n,nodes,slot,old,text⟩ (.slice Ar row.length cr) (.slice An nodes.length cn)) 67)) #[.int .i64 0,.string ⟨#[]⟩,.int .i64 0,.slice none 0 0] 24
  exact ⟨by simpa using h,by simpa using h2⟩
 have KB:Hid (∀ W,Below W0.heap.size W0 W→Box4 W w.heap.size tk tx tc (.slice A ts.length cap)∧OpBox W (w.heap.size + 1) ⟨kind,row,at_,n,nodes,slot,old,text⟩ (.slice Ar row.length cr) (.slice An nodes.length cn)∧Box4 W (w.heap.size + 1 + 1) 0 ⟨#[]⟩ 0 (.slice none 0 0)∧Free4 W (w.heap.size + 1 + 1)∧Below w.heap.size w W):=fun W hW =>
  ⟨hbT.below hW (by omega),hbP.below hW (by omega),hbR.1.below hW (by omega),hbR.2.below hW (by omega),hB0.trans (hW.mono hB0.size)⟩
 have HZ0:=hid hz0
 simp only [opC] at *
 obtain ⟨hx1,hx2,hx3,hx4,hB0'⟩:=KB.out W0 (Below.refl _ _)
 have HB0:=hid hB0
 clear hv hn hr hok hop hct hS hSB hz0 hB0 hbT hbP hbR hx3 hx4 hB0' hbV hbF hbO HRT
 obtain ⟨m0,m1,m2,m3⟩:=hx1
 obtain ⟨o0,o1,o2,o3,o4,o5,o6,o7⟩:=hx2
 cases bV
 ·go_enter Tryz.func45,Tryz.ntmps45
  go_wp2_with fail
  refine (C1.out _ HB0.out).mono ?_
  rintro e w1 ⟨rfl,hb1⟩
  have HT1:=hid hb1
  clear hb1 m0 m1 m2 m3 o0 o1 o2 o3 o4 o5 o6 o7
  obtain ⟨⟨m0,m1,m2,m3⟩,⟨o0,o1,o2,o3,o4,o5,o6,o7⟩,hrb,⟨f0,f1,f2,f3⟩,hbw⟩:=KB.out w1 HT1.out
  have HRB:=hid hrb
  obtain ⟨r0,r1,r2,r3⟩:=hrb
  have HK1:=hid hbw
  clear hbw
  go_wp2_with fail
  generalize hZ:((((w1.setCell _ (.int .i64 0)).setCell _ (.string ⟨#[]⟩)).setCell _ (.int .i64 0)).setCell _ (.slice none 0 0)) = Z
  obtain ⟨⟨e0,e1,e2,e3'⟩,hZs,hZB,hZo,_,_⟩:=fourAt (o:=0) HRB.out.1 HRB.out.2.1 HRB.out.2.2.1 HRB.out.2.2.2 _ _ _ _ hZ.symm
  simp only [Nat.zero_add] at e1 e2 e3'
  have HZB:=hid (hZB w.heap.size w (by omega) HK1.out)
  clear hZ hZs hZB hZo
  refine bodyPost_ret (v:=.tuple #[.agg #[.int .i64 0,.string ⟨#[]⟩,.int .i64 0,.slice none 0 0],.int .i64 1]) (by simp [results,Tryz.results45,go_sem,e0,e1,e2,e3']) rfl ?_
  rw [HA.out.1 (by trivial)]
  exact ⟨_,rfl,SliceR.nil_ 0 (Nat.zero_le _) none,HZB.out⟩
 cases bF
 ·go_enter Tryz.func45,Tryz.ntmps45
  go_wp2_with fail
  refine (C1.out _ HB0.out).mono ?_
  rintro e w1 ⟨rfl,hb1⟩
  have HT1:=hid hb1
  clear hb1 m0 m1 m2 m3 o0 o1 o2 o3 o4 o5 o6 o7
  obtain ⟨⟨m0,m1,m2,m3⟩,⟨o0,o1,o2,o3,o4,o5,o6,o7⟩,hrb,⟨f0,f1,f2,f3⟩,hbw⟩:=KB.out w1 HT1.out
  have HRB:=hid hrb
  obtain ⟨r0,r1,r2,r3⟩:=hrb
  have HK1:=hid hbw
  clear hbw
  go_wp2_with fail
  refine (C2.out _ HK1.out).mono ?_
  rintro e w2 ⟨rfl,hb2⟩
  have HT2:=hid (HT1.out.trans (hb2.mono HT1.out.size))
  clear hb2
  clear m0 m1 m2 m3 o0 o1 o2 o3 o4 o5 o6 o7 r0 r1 r2 r3 f0 f1 f2 f3 HRB
  obtain ⟨⟨m0,m1,m2,m3⟩,⟨o0,o1,o2,o3,o4,o5,o6,o7⟩,hrb,⟨f0,f1,f2,f3⟩,hbw⟩:=KB.out w2 HT2.out
  have HRB:=hid hrb
  obtain ⟨r0,r1,r2,r3⟩:=hrb
  have HK2:=hid hbw
  clear hbw
  go_wp2_with fail
  generalize hZ:((((w2.setCell _ (.int .i64 0)).setCell _ (.string ⟨#[]⟩)).setCell _ (.int .i64 0)).setCell _ (.slice none 0 0)) = Z
  obtain ⟨⟨e0,e1,e2,e3'⟩,hZs,hZB,hZo,_,_⟩:=fourAt (o:=0) HRB.out.1 HRB.out.2.1 HRB.out.2.2.1 HRB.out.2.2.2 _ _ _ _ hZ.symm
  simp only [Nat.zero_add] at e1 e2 e3'
  have HZB:=hid (hZB w.heap.size w (by omega) HK2.out)
  clear hZ hZs hZB hZo
  refine bodyPost_ret (v:=.tuple #[.agg #[.int .i64 0,.string ⟨#[]⟩,.int .i64 0,.slice none 0 0],.int .i64 4]) (by simp [results,Tryz.results45,go_sem,e0,e1,e2,e3']) rfl ?_
  rw [(HA.out.2 (by trivial)).1 (by trivial)]
  exact ⟨_,rfl,SliceR.nil_ 0 (Nat.zero_le _) none,HZB.out⟩
 rcases Decidable.em (e3 = 0) with he3 | he3
 case inr =>
  have HE3:=hid he3
  have i0:(e3 != 0) = true:=by simpa using he3
  go_enter Tryz.func45,Tryz.ntmps45
  go_wp2_with fail
  refine (C1.out _ HB0.out).mono ?_
  rintro e w1 ⟨rfl,hb1⟩
  have HT1:=hid hb1
  clear hb1 m0 m1 m2 m3 o0 o1 o2 o3 o4 o5 o6 o7
  obtain ⟨⟨m0,m1,m2,m3⟩,⟨o0,o1,o2,o3,o4,o5,o6,o7⟩,hrb,⟨f0,f1,f2,f3⟩,hbw⟩:=KB.out w1 HT1.out
  have HRB:=hid hrb
  obtain ⟨r0,r1,r2,r3⟩:=hrb
  have HK1:=hid hbw
  clear hbw
  go_wp2_with fail
  refine (C2.out _ HK1.out).mono ?_
  rintro e w2 ⟨rfl,hb2⟩
  have HT2:=hid (HT1.out.trans (hb2.mono HT1.out.size))
  clear hb2
  clear m0 m1 m2 m3 o0 o1 o2 o3 o4 o5 o6 o7 r0 r1 r2 r3 f0 f1 f2 f3 HRB
  obtain ⟨⟨m0,m1,m2,m3⟩,⟨o0,o1,o2,o3,o4,o5,o6,o7⟩,hrb,⟨f0,f1,f2,f3⟩,hbw⟩:=KB.out w2 HT2.out
  have HRB:=hid hrb
  obtain ⟨r0,r1,r2,r3⟩:=hrb
  have HK2:=hid hbw
  clear hbw
  go_wp2_with fail
  refine (C3.out _ HK2.out).mono ?_
  intro e w3 h3
  obtain ⟨v3,rfl,hr3,hb3⟩:∃ v,e = .returned (.tuple #[.agg #[.int .i64 rk,.string rx,.int .i64 rc,v],.int .i64 e3])∧SliceR treeE w3 S rs v∧Below w2.heap.size w2 w3:=h3
  obtain ⟨A3,c3,rfl⟩:=hr3.form
  have HT3:=hid (HT2.out.trans (hb3.mono HT2.out.size))
  have HR3:=hid hr3
  have HK3:=hid (blCall HK2.out hb3)
  clear hb3 hr3
  clear m0 m1 m2 m3 o0 o1 o2 o3 o4 o5 o6 o7 r0 r1 r2 r3 f0 f1 f2 f3 HRB
  go_upto_region 6 with fail
  obtain ⟨X,hX⟩:∃ X,w3.alloc (Obj.cells #[.int .i64 rk,.string rx,.int .i64 rc,.slice A3 rs.length c3] 24) = X:=⟨_,rfl⟩
  rw [hX]
  have hXB:Below w3.heap.size w3 X:=by rw [← hX];exact blA _ _
  have hx3:X.cell? ⟨w3.heap.size,3,none⟩ = some (.slice A3 rs.length c3):=by rw [← hX];exact newC _ _ _ _ _ rfl
  have HTX:=hid (HT3.out.trans (hXB.mono HT3.out.size))
  have HRX:Hid (SliceR treeE X S rs (.slice A3 rs.length c3)):=HR3.out.keep (fun q hq=>hXB.cell (Nat.lt_of_lt_of_le (HSS.out _ hq) HK3.out.size)) (fun _ h=>h)
  clear hX hXB
  obtain ⟨⟨m0,m1,m2,m3⟩,⟨o0,o1,o2,o3,o4,o5,o6,o7⟩,hrb,⟨f0,f1,f2,f3⟩,hbw⟩:=KB.out X HTX.out
  have HRB:=hid hrb
  obtain ⟨r0,r1,r2,r3⟩:=hrb
  have HKX:=hid hbw
  clear hbw
  go_wp2_with fail
  generalize hZ:((((X.setCell _ (.int .i64 0)).setCell _ (.string ⟨#[]⟩)).setCell _ (.int .i64 0)).setCell _ (.slice none 0 0)) = Z
  obtain ⟨⟨e0,e1,e2,e3'⟩,hZs,hZB,hZo,_,_⟩:=fourAt (o:=0) HRB.out.1 HRB.out.2.1 HRB.out.2.2.1 HRB.out.2.2.2 _ _ _ _ hZ.symm
  simp only [Nat.zero_add] at e1 e2 e3'
  have HZB:=hid (hZB w.heap.size w (by omega) HKX.out)
  clear hZ hZs hZB hZo
  refine bodyPost_ret (v:=.tuple #[.agg #[.int .i64 0,.string ⟨#[]⟩,.int .i64 0,.slice none 0 0],.int .i64 e3]) (by simp [results,Tryz.results45,go_sem,e0,e1,e2,e3']) rfl ?_
  rw [((HA.out.2 (by trivial)).2 (by trivial)).1 HE3.out]
  exact ⟨_,rfl,SliceR.nil_ 0 (Nat.zero_le _) none,HZB.out⟩
 subst he3
 rcases Decidable.em (e4 = 0) with he4 | he4
 case inr =>
  have HE4:=hid he4
  have i0:(e4 != 0) = true:=by simpa using he4
  go_enter Tryz.func45,Tryz.ntmps45
  go_wp2_with fail
  refine (C1.out _ HB0.out).mono ?_
  rintro e w1 ⟨rfl,hb1⟩
  have HT1:=hid hb1
  clear hb1 m0 m1 m2 m3 o0 o1 o2 o3 o4 o5 o6 o7
  obtain ⟨⟨m0,m1,m2,m3⟩,⟨o0,o1,o2,o3,o4,o5,o6,o7⟩,hrb,⟨f0,f1,f2,f3⟩,hbw⟩:=KB.out w1 HT1.out
  have HRB:=hid hrb
  obtain ⟨r0,r1,r2,r3⟩:=hrb
  have HK1:=hid hbw
  clear hbw
  go_wp2_with fail
  refine (C2.out _ HK1.out).mono ?_
  rintro e w2 ⟨rfl,hb2⟩
  have HT2:=hid (HT1.out.trans (hb2.mono HT1.out.size))
  clear hb2
  clear m0 m1 m2 m3 o0 o1 o2 o3 o4 o5 o6 o7 r0 r1 r2 r3 f0 f1 f2 f3 HRB
  obtain ⟨⟨m0,m1,m2,m3⟩,⟨o0,o1,o2,o3,o4,o5,o6,o7⟩,hrb,⟨f0,f1,f2,f3⟩,hbw⟩:=KB.out w2 HT2.out
  have HRB:=hid hrb
  obtain ⟨r0,r1,r2,r3⟩:=hrb
  have HK2:=hid hbw
  clear hbw
  go_wp2_with fail
  refine (C3.out _ HK2.out).mono ?_
  intro e w3 h3
  obtain ⟨v3,rfl,hr3,hb3⟩:∃ v,e = .returned (.tuple #[.agg #[.int .i64 rk,.string rx,.int .i64 rc,v],.int .i64 0])∧SliceR treeE w3 S rs v∧Below w2.heap.size w2 w3:=h3
  obtain ⟨A3,c3,rfl⟩:=hr3.form
  have HT3:=hid (HT2.out.trans (hb3.mono HT2.out.size))
  have HR3:=hid hr3
  have HK3:=hid (blCall HK2.out hb3)
  clear hb3 hr3
  clear m0 m1 m2 m3 o0 o1 o2 o3 o4 o5 o6 o7 r0 r1 r2 r3 f0 f1 f2 f3 HRB
  go_upto_region 6 with fail
  obtain ⟨X,hX⟩:∃ X,w3.alloc (Obj.cells #[.int .i64 rk,.string rx,.int .i64 rc,.slice A3 rs.length c3] 24) = X:=⟨_,rfl⟩
  rw [hX]
  have hXB:Below w3.heap.size w3 X:=by rw [← hX];exact blA _ _
  have hx3:X.cell? ⟨w3.heap.size,3,none⟩ = some (.slice A3 rs.length c3):=by rw [← hX];exact newC _ _ _ _ _ rfl
  have HTX:=hid (HT3.out.trans (hXB.mono HT3.out.size))
  have HRX:Hid (SliceR treeE X S rs (.slice A3 rs.length c3)):=HR3.out.keep (fun q hq=>hXB.cell (Nat.lt_of_lt_of_le (HSS.out _ hq) HK3.out.size)) (fun _ h=>h)
  clear hX hXB
  obtain ⟨⟨m0,m1,m2,m3⟩,⟨o0,o1,o2,o3,o4,o5,o6,o7⟩,hrb,⟨f0,f1,f2,f3⟩,hbw⟩:=KB.out X HTX.out
  have HRB:=hid hrb
  obtain ⟨r0,r1,r2,r3⟩:=hrb
  have HKX:=hid hbw
  clear hbw
  go_wp2_with fail
  refine (C4.out _ _ _ HKX.out (by trivial) HRX.out).mono ?_
  intro e w4 h4
  obtain ⟨v4,rfl,hr4,hb4⟩:∃ v,e = .returned (.tuple #[v,.int .i64 e4])∧SliceR treeE w4 (NS S X.heap.size w4) L v∧Below X.heap.size X w4:=h4
  obtain ⟨A4,c4,rfl⟩:=hr4.form
  have HT4:=hid (HTX.out.trans (hb4.mono HTX.out.size))
  have HR4:=hid hr4
  have HX4:=hid hb4.size
  clear hb4 hr4 hx3
  clear m0 m1 m2 m3 o0 o1 o2 o3 o4 o5 o6 o7 r0 r1 r2 r3 f0 f1 f2 f3 HRB
  obtain ⟨⟨m0,m1,m2,m3⟩,⟨o0,o1,o2,o3,o4,o5,o6,o7⟩,hrb,⟨f0,f1,f2,f3⟩,hbw⟩:=KB.out w4 HT4.out
  have HRB:=hid hrb
  obtain ⟨r0,r1,r2,r3⟩:=hrb
  have HK4:=hid hbw
  clear hbw
  go_wp2_with fail
  generalize hZ:((((w4.setCell _ (.int .i64 0)).setCell _ (.string ⟨#[]⟩)).setCell _ (.int .i64 0)).setCell _ (.slice none 0 0)) = Z
  obtain ⟨⟨e0,e1,e2,e3'⟩,hZs,hZB,hZo,_,_⟩:=fourAt (o:=0) HRB.out.1 HRB.out.2.1 HRB.out.2.2.1 HRB.out.2.2.2 _ _ _ _ hZ.symm
  simp only [Nat.zero_add] at e1 e2 e3'
  have HZB:=hid (hZB w.heap.size w (by omega) HK4.out)
  clear hZ hZs hZB hZo
  refine bodyPost_ret (v:=.tuple #[.agg #[.int .i64 0,.string ⟨#[]⟩,.int .i64 0,.slice none 0 0],.int .i64 e4]) (by simp [results,Tryz.results45,go_sem,e0,e1,e2,e3']) rfl ?_
  rw [(((HA.out.2 (by trivial)).2 (by trivial)).2 (by trivial)).1 HE4.out]
  exact ⟨_,rfl,SliceR.nil_ 0 (Nat.zero_le _) none,HZB.out⟩
 subst he4
 cases bO
 ·go_enter Tryz.func45,Tryz.ntmps45
  go_wp2_with fail
  refine (C1.out _ HB0.out).mono ?_
  rintro e w1 ⟨rfl,hb1⟩
  have HT1:=hid hb1
  clear hb1 m0 m1 m2 m3 o0 o1 o2 o3 o4 o5 o6 o7
  obtain ⟨⟨m0,m1,m2,m3⟩,⟨o0,o1,o2,o3,o4,o5,o6,o7⟩,hrb,⟨f0,f1,f2,f3⟩,hbw⟩:=KB.out w1 HT1.out
  have HRB:=hid hrb
  obtain ⟨r0,r1,r2,r3⟩:=hrb
  have HK1:=hid hbw
  clear hbw
  go_wp2_with fail
  refine (C2.out _ HK1.out).mono ?_
  rintro e w2 ⟨rfl,hb2⟩
  have HT2:=hid (HT1.out.trans (hb2.mono HT1.out.size))
  clear hb2
  clear m0 m1 m2 m3 o0 o1 o2 o3 o4 o5 o6 o7 r0 r1 r2 r3 f0 f1 f2 f3 HRB
  obtain ⟨⟨m0,m1,m2,m3⟩,⟨o0,o1,o2,o3,o4,o5,o6,o7⟩,hrb,⟨f0,f1,f2,f3⟩,hbw⟩:=KB.out w2 HT2.out
  have HRB:=hid hrb
  obtain ⟨r0,r1,r2,r3⟩:=hrb
  have HK2:=hid hbw
  clear hbw
  go_wp2_with fail
  refine (C3.out _ HK2.out).mono ?_
  intro e w3 h3
  obtain ⟨v3,rfl,hr3,hb3⟩:∃ v,e = .returned (.tuple #[.agg #[.int .i64 rk,.string rx,.int .i64 rc,v],.int .i64 0])∧SliceR treeE w3 S rs v∧Below w2.heap.size w2 w3:=h3
  obtain ⟨A3,c3,rfl⟩:=hr3.form
  have HT3:=hid (HT2.out.trans (hb3.mono HT2.out.size))
  have HR3:=hid hr3
  have HK3:=hid (blCall HK2.out hb3)
  clear hb3 hr3
  clear m0 m1 m2 m3 o0 o1 o2 o3 o4 o5 o6 o7 r0 r1 r2 r3 f0 f1 f2 f3 HRB
  go_upto_region 6 with fail
  obtain ⟨X,hX⟩:∃ X,w3.alloc (Obj.cells #[.int .i64 rk,.string rx,.int .i64 rc,.slice A3 rs.length c3] 24) = X:=⟨_,rfl⟩
  rw [hX]
  have hXB:Below w3.heap.size w3 X:=by rw [← hX];exact blA _ _
  have hx3:X.cell? ⟨w3.heap.size,3,none⟩ = some (.slice A3 rs.length c3):=by rw [← hX];exact newC _ _ _ _ _ rfl
  have HTX:=hid (HT3.out.trans (hXB.mono HT3.out.size))
  have HRX:Hid (SliceR treeE X S rs (.slice A3 rs.length c3)):=HR3.out.keep (fun q hq=>hXB.cell (Nat.lt_of_lt_of_le (HSS.out _ hq) HK3.out.size)) (fun _ h=>h)
  clear hX hXB
  obtain ⟨⟨m0,m1,m2,m3⟩,⟨o0,o1,o2,o3,o4,o5,o6,o7⟩,hrb,⟨f0,f1,f2,f3⟩,hbw⟩:=KB.out X HTX.out
  have HRB:=hid hrb
  obtain ⟨r0,r1,r2,r3⟩:=hrb
  have HKX:=hid hbw
  clear hbw
  go_wp2_with fail
  refine (C4.out _ _ _ HKX.out (by trivial) HRX.out).mono ?_
  intro e w4 h4
  obtain ⟨v4,rfl,hr4,hb4⟩:∃ v,e = .returned (.tuple #[v,.int .i64 0])∧SliceR treeE w4 (NS S X.heap.size w4) L v∧Below X.heap.size X w4:=h4
  obtain ⟨A4,c4,rfl⟩:=hr4.form
  have HT4:=hid (HTX.out.trans (hb4.mono HTX.out.size))
  have HR4:=hid hr4
  have HX4:=hid hb4.size
  clear hb4 hr4 hx3
  clear m0 m1 m2 m3 o0 o1 o2 o3 o4 o5 o6 o7 r0 r1 r2 r3 f0 f1 f2 f3 HRB
  obtain ⟨⟨m0,m1,m2,m3⟩,⟨o0,o1,o2,o3,o4,o5,o6,o7⟩,hrb,⟨f0,f1,f2,f3⟩,hbw⟩:=KB.out w4 HT4.out
  have HRB:=hid hrb
  obtain ⟨r0,r1,r2,r3⟩:=hrb
  have HK4:=hid hbw
  clear hbw
  go_wp2_with fail
  refine (C5.out _ X.heap.size _ _ HK4.out (by trivial) (by trivial) (HCL.out (by trivial)).1 HR4.out).mono ?_
  intro e w5 h5
  obtain ⟨v5,rfl,hr5,hb5⟩:∃ v,e = .returned (.agg #[.int .i64 ok,.string ox,.int .i64 oc,v])∧SliceR treeE w5 (NS S X.heap.size w5) os v∧Below w4.heap.size w4 w5:=TreeP.ns2 h5 HX4.out
  obtain ⟨A5,c5,rfl⟩:=hr5.form
  have HT5:=hid (HT4.out.trans (hb5.mono HT4.out.size))
  have HR5:=hid hr5
  have HX5:=hid (Nat.le_trans HX4.out hb5.size)
  have HK5':=hid (blCall HK4.out hb5)
  clear hb5 hr5
  clear m0 m1 m2 m3 o0 o1 o2 o3 o4 o5 o6 o7 r0 r1 r2 r3 f0 f1 f2 f3 HRB
  go_upto_region 12 with fail
  obtain ⟨Y,hY⟩:∃ Y,w5.alloc (Obj.cells #[.int .i64 ok,.string ox,.int .i64 oc,.slice A5 os.length c5] 24) = Y:=⟨_,rfl⟩
  rw [hY]
  have hYB:Below w5.heap.size w5 Y:=by rw [← hY];exact blA _ _
  have HYN:Hid (Box4 Y w5.heap.size ok ox oc (.slice A5 os.length c5)):=by show Box4 _ _ _ _ _ _;rw [← hY];exact Box4.new _ _ _ _ _ _
  have HYZ:Hid (w5.heap.size < Y.heap.size):=by show _ < _;rw [← hY];simp
  have HTY:=hid (HT5.out.trans (hYB.mono HT5.out.size))
  have HRY:Hid (SliceR treeE Y (NS S X.heap.size Y) os (.slice A5 os.length c5)):=NS.keep HR5.out (fun q hq=>Nat.lt_of_lt_of_le (HSS.out _ hq) HK5'.out.size) hYB
  have HLY:Hid (SliceR treeE Y (Lt Y.heap.size) os (.slice A5 os.length c5)):=nsLt HRY.out HSS.out (Nat.le_trans HK5'.out.size hYB.size)
  obtain ⟨n0,n1,n2,n3⟩:=HYN.out
  clear hY hYB
  obtain ⟨⟨m0,m1,m2,m3⟩,⟨o0,o1,o2,o3,o4,o5,o6,o7⟩,hrb,⟨f0,f1,f2,f3⟩,hbw⟩:=KB.out Y HTY.out
  have HRB:=hid hrb
  obtain ⟨r0,r1,r2,r3⟩:=hrb
  have HKY:=hid hbw
  clear hbw
  go_wp2_with fail
  refine (C6.out _ _ _ HLY.out (HCL.out (by trivial)).2).mono ?_
  rintro e w6 ⟨rfl,hb6⟩
  have HT6:=hid (HTY.out.trans (hb6.mono HTY.out.size))
  obtain ⟨n0,n1,n2,n3⟩:=HYN.out.below hb6 HYZ.out
  have HR6:=hid (NS.keep HRY.out (fun q hq=>Nat.lt_of_lt_of_le (HSS.out _ hq) HKY.out.size) hb6)
  have HX6:Hid (X.heap.size≤w6.heap.size∧w.heap.size + 1 + 1 + 1≤X.heap.size):=⟨by have:=HX5.out;have:=HYZ.out;have:=hb6.size;omega,by have:=HTX.out.size;have:=HZ0.out;omega⟩
  clear hb6
  clear m0 m1 m2 m3 o0 o1 o2 o3 o4 o5 o6 o7 r0 r1 r2 r3 f0 f1 f2 f3 HRB
  obtain ⟨⟨m0,m1,m2,m3⟩,⟨o0,o1,o2,o3,o4,o5,o6,o7⟩,hrb,⟨f0,f1,f2,f3⟩,hbw⟩:=KB.out w6 HT6.out
  have HRB:=hid hrb
  obtain ⟨r0,r1,r2,r3⟩:=hrb
  have HK6:=hid hbw
  clear hbw
  go_wp2_with fail
  generalize hZ:((((w6.setCell _ (.int .i64 0)).setCell _ (.string ⟨#[]⟩)).setCell _ (.int .i64 0)).setCell _ (.slice none 0 0)) = Z
  obtain ⟨⟨e0,e1,e2,e3'⟩,hZs,hZB,hZo,_,_⟩:=fourAt (o:=0) HRB.out.1 HRB.out.2.1 HRB.out.2.2.1 HRB.out.2.2.2 _ _ _ _ hZ.symm
  simp only [Nat.zero_add] at e1 e2 e3'
  have HZB:=hid (hZB w.heap.size w (by omega) HK6.out)
  clear hZ hZs hZB hZo
  refine bodyPost_ret (v:=.tuple #[.agg #[.int .i64 0,.string ⟨#[]⟩,.int .i64 0,.slice none 0 0],.int .i64 6]) (by simp [results,Tryz.results45,go_sem,e0,e1,e2,e3']) rfl ?_
  rw [((((HA.out.2 (by trivial)).2 (by trivial)).2 (by trivial)).2 (by trivial)).1 (by trivial)]
  exact ⟨_,rfl,SliceR.nil_ 0 (Nat.zero_le _) none,HZB.out⟩
 ·go_enter Tryz.func45,Tryz.ntmps45
  go_wp2_with fail
  refine (C1.out _ HB0.out).mono ?_
  rintro e w1 ⟨rfl,hb1⟩
  have HT1:=hid hb1
  clear hb1 m0 m1 m2 m3 o0 o1 o2 o3 o4 o5 o6 o7
  obtain ⟨⟨m0,m1,m2,m3⟩,⟨o0,o1,o2,o3,o4,o5,o6,o7⟩,hrb,⟨f0,f1,f2,f3⟩,hbw⟩:=KB.out w1 HT1.out
  have HRB:=hid hrb
  obtain ⟨r0,r1,r2,r3⟩:=hrb
  have HK1:=hid hbw
  clear hbw
  go_wp2_with fail
  refine (C2.out _ HK1.out).mono ?_
  rintro e w2 ⟨rfl,hb2⟩
  have HT2:=hid (HT1.out.trans (hb2.mono HT1.out.size))
  clear hb2
  clear m0 m1 m2 m3 o0 o1 o2 o3 o4 o5 o6 o7 r0 r1 r2 r3 f0 f1 f2 f3 HRB
  obtain ⟨⟨m0,m1,m2,m3⟩,⟨o0,o1,o2,o3,o4,o5,o6,o7⟩,hrb,⟨f0,f1,f2,f3⟩,hbw⟩:=KB.out w2 HT2.out
  have HRB:=hid hrb
  obtain ⟨r0,r1,r2,r3⟩:=hrb
  have HK2:=hid hbw
  clear hbw
  go_wp2_with fail
  refine (C3.out _ HK2.out).mono ?_
  intro e w3 h3
  obtain ⟨v3,rfl,hr3,hb3⟩:∃ v,e = .returned (.tuple #[.agg #[.int .i64 rk,.string rx,.int .i64 rc,v],.int .i64 0])∧SliceR treeE w3 S rs v∧Below w2.heap.size w2 w3:=h3
  obtain ⟨A3,c3,rfl⟩:=hr3.form
  have HT3:=hid (HT2.out.trans (hb3.mono HT2.out.size))
  have HR3:=hid hr3
  have HK3:=hid (blCall HK2.out hb3)
  clear hb3 hr3
  clear m0 m1 m2 m3 o0 o1 o2 o3 o4 o5 o6 o7 r0 r1 r2 r3 f0 f1 f2 f3 HRB
  go_upto_region 6 with fail
  obtain ⟨X,hX⟩:∃ X,w3.alloc (Obj.cells #[.int .i64 rk,.string rx,.int .i64 rc,.slice A3 rs.length c3] 24) = X:=⟨_,rfl⟩
  rw [hX]
  have hXB:Below w3.heap.size w3 X:=by rw [← hX];exact blA _ _
  have hx3:X.cell? ⟨w3.heap.size,3,none⟩ = some (.slice A3 rs.length c3):=by rw [← hX];exact newC _ _ _ _ _ rfl
  have HTX:=hid (HT3.out.trans (hXB.mono HT3.out.size))
  have HRX:Hid (SliceR treeE X S rs (.slice A3 rs.length c3)):=HR3.out.keep (fun q hq=>hXB.cell (Nat.lt_of_lt_of_le (HSS.out _ hq) HK3.out.size)) (fun _ h=>h)
  clear hX hXB
  obtain ⟨⟨m0,m1,m2,m3⟩,⟨o0,o1,o2,o3,o4,o5,o6,o7⟩,hrb,⟨f0,f1,f2,f3⟩,hbw⟩:=KB.out X HTX.out
  have HRB:=hid hrb
  obtain ⟨r0,r1,r2,r3⟩:=hrb
  have HKX:=hid hbw
  clear hbw
  go_wp2_with fail
  refine (C4.out _ _ _ HKX.out (by trivial) HRX.out).mono ?_
  intro e w4 h4
  obtain ⟨v4,rfl,hr4,hb4⟩:∃ v,e = .returned (.tuple #[v,.int .i64 0])∧SliceR treeE w4 (NS S X.heap.size w4) L v∧Below X.heap.size X w4:=h4
  obtain ⟨A4,c4,rfl⟩:=hr4.form
  have HT4:=hid (HTX.out.trans (hb4.mono HTX.out.size))
  have HR4:=hid hr4
  have HX4:=hid hb4.size
  clear hb4 hr4 hx3
  clear m0 m1 m2 m3 o0 o1 o2 o3 o4 o5 o6 o7 r0 r1 r2 r3 f0 f1 f2 f3 HRB
  obtain ⟨⟨m0,m1,m2,m3⟩,⟨o0,o1,o2,o3,o4,o5,o6,o7⟩,hrb,⟨f0,f1,f2,f3⟩,hbw⟩:=KB.out w4 HT4.out
  have HRB:=hid hrb
  obtain ⟨r0,r1,r2,r3⟩:=hrb
  have HK4:=hid hbw
  clear hbw
  go_wp2_with fail
  refine (C5.out _ X.heap.size _ _ HK4.out (by trivial) (by trivial) (HCL.out (by trivial)).1 HR4.out).mono ?_
  intro e w5 h5
  obtain ⟨v5,rfl,hr5,hb5⟩:∃ v,e = .returned (.agg #[.int .i64 ok,.string ox,.int .i64 oc,v])∧SliceR treeE w5 (NS S X.heap.size w5) os v∧Below w4.heap.size w4 w5:=TreeP.ns2 h5 HX4.out
  obtain ⟨A5,c5,rfl⟩:=hr5.form
  have HT5:=hid (HT4.out.trans (hb5.mono HT4.out.size))
  have HR5:=hid hr5
  have HX5:=hid (Nat.le_trans HX4.out hb5.size)
  have HK5':=hid (blCall HK4.out hb5)
  clear hb5 hr5
  clear m0 m1 m2 m3 o0 o1 o2 o3 o4 o5 o6 o7 r0 r1 r2 r3 f0 f1 f2 f3 HRB
  go_upto_region 12 with fail
  obtain ⟨Y,hY⟩:∃ Y,w5.alloc (Obj.cells #[.int .i64 ok,.string ox,.int .i64 oc,.slice A5 os.length c5] 24) = Y:=⟨_,rfl⟩
  rw [hY]
  have hYB:Below w5.heap.size w5 Y:=by rw [← hY];exact blA _ _
  have HYN:Hid (Box4 Y w5.heap.size ok ox oc (.slice A5 os.length c5)):=by show Box4 _ _ _ _ _ _;rw [← hY];exact Box4.new _ _ _ _ _ _
  have HYZ:Hid (w5.heap.size < Y.heap.size):=by show _ < _;rw [← hY];simp
  have HTY:=hid (HT5.out.trans (hYB.mono HT5.out.size))
  have HRY:Hid (SliceR treeE Y (NS S X.heap.size Y) os (.slice A5 os.length c5)):=NS.keep HR5.out (fun q hq=>Nat.lt_of_lt_of_le (HSS.out _ hq) HK5'.out.size) hYB
  have HLY:Hid (SliceR treeE Y (Lt Y.heap.size) os (.slice A5 os.length c5)):=nsLt HRY.out HSS.out (Nat.le_trans HK5'.out.size hYB.size)
  obtain ⟨n0,n1,n2,n3⟩:=HYN.out
  clear hY hYB
  obtain ⟨⟨m0,m1,m2,m3⟩,⟨o0,o1,o2,o3,o4,o5,o6,o7⟩,hrb,⟨f0,f1,f2,f3⟩,hbw⟩:=KB.out Y HTY.out
  have HRB:=hid hrb
  obtain ⟨r0,r1,r2,r3⟩:=hrb
  have HKY:=hid hbw
  clear hbw
  go_wp2_with fail
  refine (C6.out _ _ _ HLY.out (HCL.out (by trivial)).2).mono ?_
  rintro e w6 ⟨rfl,hb6⟩
  have HT6:=hid (HTY.out.trans (hb6.mono HTY.out.size))
  obtain ⟨n0,n1,n2,n3⟩:=HYN.out.below hb6 HYZ.out
  have HR6:=hid (NS.keep HRY.out (fun q hq=>Nat.lt_of_lt_of_le (HSS.out _ hq) HKY.out.size) hb6)
  have HX6:Hid (X.heap.size≤w6.heap.size∧w.heap.size + 1 + 1 + 1≤X.heap.size):=⟨by have:=HX5.out;have:=HYZ.out;have:=hb6.size;omega,by have:=HTX.out.size;have:=HZ0.out;omega⟩
  clear hb6
  clear m0 m1 m2 m3 o0 o1 o2 o3 o4 o5 o6 o7 r0 r1 r2 r3 f0 f1 f2 f3 HRB
  obtain ⟨⟨m0,m1,m2,m3⟩,⟨o0,o1,o2,o3,o4,o5,o6,o7⟩,hrb,⟨f0,f1,f2,f3⟩,hbw⟩:=KB.out w6 HT6.out
  have HRB:=hid hrb
  obtain ⟨r0,r1,r2,r3⟩:=hrb
  have HK6:=hid hbw
  clear hbw
  go_wp2_with fail
  generalize hZ:((((w6.setCell _ (.int .i64 ok)).setCell _ (.string ox)).setCell _ (.int .i64 oc)).setCell _ (.slice A5 os.length c5)) = Z
  obtain ⟨⟨e0,e1,e2,e3'⟩,hZs,hZB,hZo,_,_⟩:=fourAt (o:=0) HRB.out.1 HRB.out.2.1 HRB.out.2.2.1 HRB.out.2.2.2 _ _ _ _ hZ.symm
  simp only [Nat.zero_add] at e1 e2 e3'
  have HZB:=hid (hZB w.heap.size w (by omega) HK6.out)
  have HZO:=hid hZo
  have HZS:=hid hZs
  clear hZ hZs hZB hZo
  refine bodyPost_ret (v:=.tuple #[.agg #[.int .i64 ok,.string ox,.int .i64 oc,.slice A5 os.length c5],.int .i64 0]) (by simp [results,Tryz.results45,go_sem,e0,e1,e2,e3']) rfl ?_
  rw [((((HA.out.2 (by trivial)).2 (by trivial)).2 (by trivial)).2 (by trivial)).2 (by trivial)]
  have hx6:=HX6.out
  have hzs:=HZS.out
  refine ⟨_,rfl,HR6.out.keep (fun q hq=>HZO.out q ?_) (fun q hq=>?_),HZB.out⟩
  ·rcases hq with hq | hq
   ·have:=HSS.out _ hq;omega
   ·omega
  ·rcases hq with hq | hq
   ·exact .inl hq
   ·exact .inr ⟨by omega,by omega⟩
end Go.Proofs.YtbjcioknfjofkaaGreat
