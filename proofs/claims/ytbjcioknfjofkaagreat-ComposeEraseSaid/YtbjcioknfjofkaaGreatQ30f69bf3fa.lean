/- Texts put together. -/
import Derived.Test.YtbjcioknfjofkaaGreatQ8c13868fc1
set_option linter.unusedVariables false
set_option linter.unusedSimpArgs false
set_option maxRecDepth 100000
namespace Go.Proofs.YtbjcioknfjofkaaGreat
open Go.RowKit
set_option maxHeartbeats 8000000 in
theorem chg_set (l:List Tree) (row:List Int) (at_ n slot:Int) (nodes:List Tree) (old text:ByteArray) (A Ar An:Option Addr) (cap lr cr cn:Nat) (w:World) (S:Nat→Prop) (hS:∀ q,S q→q < w.heap.size) (hl:zAa zAb w S l (.slice A l.length cap)) (hn:zAa zAb w S nodes (.slice An nodes.length cn)) (hat:In64 at_) (hcl:zAd l≤1000000) (hcn:zAd nodes≤1000000) (htx:text.size≤maxLen) :
  Calls Tryz.prog 79 #[.slice A l.length cap,.agg (opC ⟨5,row,at_,n,nodes,slot,old,text⟩ (.slice Ar lr cr) (.slice An nodes.length cn))] w (zCa S w (zAi l ⟨5,row,at_,n,nodes,slot,old,text⟩)):=by
 have hll:l.length≤1000000:=by have:=zBf l;omega
 have hln:nodes.length≤1000000:=by have:=zBf nodes;omega
 have hnd:zCv ⟨5,row,at_,n,nodes,slot,old,text⟩ = 1:=by simp [zCv]
 have HSS:=hid hS
 generalize hW0:w.alloc (.cells (opC ⟨5,row,at_,n,nodes,slot,old,text⟩ (.slice Ar lr cr) (.slice An nodes.length cn)) 67) = W0
 have hz0:W0.heap.size = w.heap.size + 1:=by rw [← hW0];simp
 have KB:Hid (∀ W,Below W0.heap.size W0 W→zDa W w.heap.size ⟨5,row,at_,n,nodes,slot,old,text⟩ (.slice Ar lr cr) (.slice An nodes.length cn)∧Below w.heap.size w W):=fun W hW=>by
  have h0:zDa W0 w.heap.size ⟨5,row,at_,n,nodes,slot,old,text⟩ (.slice Ar lr cr) (.slice An nodes.length cn):=by rw [← hW0];exact zDa.new _ _ _ _ _
  have hB0:Below w.heap.size w W0:=by rw [← hW0];exact blA _ _
  exact ⟨h0.below hW (by omega),hB0.trans (hW.mono hB0.size)⟩
 obtain ⟨⟨m0,m1,m2,m3,m4,m5,m6,m7⟩,hB0⟩:=KB.out W0 (Below.refl _ _)
 have HB0:=hid hB0
 have HZ0:=hid hz0
 have HL:=hid hl
 have HN:=hid hn
 simp only [opC] at *
 clear hS hl hn hB0 hz0
 rcases Int.lt_or_le at_ 0 with r0 | r0
 ·have i0:decide (at_ < 0) = true:=by simpa using r0
  have hr:zAi l ⟨5,row,at_,n,nodes,slot,old,text⟩ = ([],2):=if_pos (by rw [hnd];simp only;omega)
  rw [hr]
  clear hr hnd
  go_enter Tryz.func79,Tryz.ntmps79
  go_wp2_with fail
  refine bodyPost_ret (v:=.tuple #[.slice none 0 0,.int .i64 2]) (by simp [results,Tryz.results79,go_sem]) rfl ?_
  exact ⟨_,rfl,zAa.nil_ 0 (Nat.zero_le _) none,HB0.out⟩
 have i0:decide (at_ < 0) = false:=by simpa using r0
 rcases Int.lt_or_le (l.length:Int) at_ with r1 | r1
 ·have i1:decide ((l.length:Int) < at_) = true:=by simpa using r1
  have hr:zAi l ⟨5,row,at_,n,nodes,slot,old,text⟩ = ([],2):=if_pos (by rw [hnd];simp only;omega)
  rw [hr]
  clear hr hnd
  go_enter Tryz.func79,Tryz.ntmps79
  go_wp2_with fail
  refine bodyPost_ret (v:=.tuple #[.slice none 0 0,.int .i64 2]) (by simp [results,Tryz.results79,go_sem]) rfl ?_
  exact ⟨_,rfl,zAa.nil_ 0 (Nat.zero_le _) none,HB0.out⟩
 have i1:decide ((l.length:Int) < at_) = false:=by simpa using r1
 have w1:IntKind.i64.wrap ((l.length:Int) - at_) = (l.length:Int) - at_:=IntWalk.i64_in _ (by omega)
 rcases Int.lt_or_le ((l.length:Int) - at_) (1) with r2 | r2
 ·have i2:decide ((l.length:Int) - at_ < 1) = true:=by simpa using r2
  have hr:zAi l ⟨5,row,at_,n,nodes,slot,old,text⟩ = ([],2):=if_pos (by rw [hnd];simp only;omega)
  rw [hr]
  clear hr hnd
  go_enter Tryz.func79,Tryz.ntmps79
  go_wp2_with fail
  refine bodyPost_ret (v:=.tuple #[.slice none 0 0,.int .i64 2]) (by simp [results,Tryz.results79,go_sem]) rfl ?_
  exact ⟨_,rfl,zAa.nil_ 0 (Nat.zero_le _) none,HB0.out⟩
 have i2:decide ((l.length:Int) - at_ < 1) = false:=by simpa using r2
 have w2:IntKind.i64.wrap (at_ + 1) = at_ + 1:=IntWalk.i64_in _ (by omega)
 have w3:IntKind.i64.wrap at_ = at_:=IntWalk.i64_in _ (by omega)
 have hnr:¬ (at_ < 0∨(l.length:Int) < at_∨(l.length:Int) - at_ < zCv ⟨5,row,at_,n,nodes,slot,old,text⟩):=by rw [hnd];omega
 obtain ⟨a,ha⟩:∃ a:Nat,at_ = a:=⟨at_.toNat,by omega⟩
 obtain ⟨b,hb⟩:∃ b:Nat,at_ + 1 = b:=⟨(at_ + 1).toNat,by omega⟩
 have hai:a < l.length:=by omega
 obtain ⟨_,_,rl0,hq,_,_,hrdl,hlsl⟩:=id HL.out
 cases hq
 obtain ⟨g,o,A1,c1,rl1,rfl,hg,t0_,t1_,t2_,t3_,e1,e2,e3,e4,e5,hrdi,hlsi⟩:=zAy hrdl hlsl hai
 have hIv:zAa zAb w S l[a].kids (.slice A1 l[a].kids.length c1):=⟨_,_,rl1,rfl,e4,e5,hrdi,hlsi⟩
 have hgl:g < w.heap.size:=HSS.out _ hg
 have KI:Hid (∀ W,Below w.heap.size w W→W.cell? ⟨g,o + a * 4,none⟩ = some (.int .i64 l[a].kind)∧W.cell? ⟨g,o + a * 4 + 1,none⟩ = some (.string l[a].text)∧W.cell? ⟨g,o + a * 4 + 2,none⟩ = some (.int .i64 l[a].cols)∧W.cell? ⟨g,o + a * 4 + 3,none⟩ = some (.slice A1 l[a].kids.length c1)):=fun W hW =>
  ⟨(hW.cell (p:=⟨g,_,none⟩) hgl).trans t0_,(hW.cell (p:=⟨g,_,none⟩) hgl).trans t1_,(hW.cell (p:=⟨g,_,none⟩) hgl).trans t2_,(hW.cell (p:=⟨g,_,none⟩) hgl).trans t3_⟩
 have hgd:l.getD a zAx = l[a]:=by rw [List.getD_eq_getElem?_getD,List.getElem?_eq_getElem hai];rfl
 subst ha
 have hr0:zAi l ⟨5,row,(a:Int),n,nodes,slot,old,text⟩ = (if zCt l[a].kind = true∧(l[a].text.toList == old.toList) = true then (zAv l a b [.mk l[a].kind text l[a].cols l[a].kids],0) else ([],7)):=by
  unfold zAi
  rw [if_neg hnr,if_neg (by simp),if_neg (by simp),if_neg (by simp),if_neg (by simp)]
  simp only [hb,Int.toNat_natCast,hgd]
 have P1:¬ (zCt l[a].kind = true∧(l[a].text.toList == old.toList) = true)→zAi l ⟨5,row,(a:Int),n,nodes,slot,old,text⟩ = ([],7):=fun h=>hr0.trans (if_neg h)
 have P2:(zCt l[a].kind = true∧(l[a].text.toList == old.toList) = true)→zAi l ⟨5,row,(a:Int),n,nodes,slot,old,text⟩ = (zAv l a b [.mk l[a].kind text l[a].cols l[a].kids],0):=fun h=>hr0.trans (if_pos h)
 clear hr0
 generalize zAi l ⟨5,row,(a:Int),n,nodes,slot,old,text⟩ = res at *
 have j0:(0:Int)≤(a:Int):=by omega
 have j1:(a:Int) < (l.length:Int):=by omega
 obtain ⟨x0,x1,x2,x3⟩:=KI.out W0 HB0.out
 have KW:Hid (∀ k x c v W,Below (W0.alloc (Obj.cells #[.int .i64 k,.string x,.int .i64 c,v] 24)).heap.size (W0.alloc (Obj.cells #[.int .i64 k,.string x,.int .i64 c,v] 24)) W→Box4 W W0.heap.size k x c v∧zCz W W0.heap.size∧Below W0.heap.size W0 W):=fun k x c v W hW =>
  ⟨(Box4.new W0 k x c v _).below hW (by simp),(zCz.new W0 _ _).below hW (by simp),(blA _ _).trans (hW.mono (by simp))⟩
 have hokR:zAu (.mk l[a].kind text l[a].cols l[a].kids):=⟨e1,e2,htx⟩
 have CS:Hid (∀ W b0 v,Below w.heap.size w W→w.heap.size≤b0→zAa zAb W (NS S b0 W) [.mk l[a].kind text l[a].cols l[a].kids] v→∀ B',v = .slice B' 1 1→Calls Tryz.prog 114 #[.slice (some ⟨g,o,none⟩) l.length cap,.int .i64 (a:Int),.int .i64 ((a:Int) + 1),v] W (zEb (NS S b0 W) W (zAv l a b [.mk l[a].kind text l[a].cols l[a].kids]))):=by
  intro W b0 v hW hb0 hr B' hv
  subst hv
  exact zEk l [.mk l[a].kind text l[a].cols l[a].kids] (a:Int) ((a:Int) + 1) a b _ B' cap 1 W (NS S b0 W) (fun q hq=>by
   have hz:=hW.size
   rcases hq with hq | hq
   ·have:=HSS.out q hq;omega
   ·exact hq.2) rfl (by omega) (by omega) (by omega) hll (by simp) ((zBg HL.out HSS.out hW).keep (fun _ _=>rfl) (fun q hq=>.inl hq)) hr
 have HIV:=hid hIv
 generalize hbt:(l[a].text.toList == old.toList) = bT at *
 generalize l[a] = item at *
 obtain ⟨ik,ix,ic,is⟩:=item
 simp only [Tree.kind,Tree.text,Tree.cols,Tree.kids] at *
 have HOK:=hid hokR
 by_cases htk:zCt ik = true
 rotate_left
 ·rw [P1 (fun h=>htk h.1)]
  clear P1 P2
  have hk:ik≠2∧ik≠3∧ik≠4∧ik≠10∧ik≠11:=by
   unfold zCt at htk
   simp only [decide_eq_true_eq] at htk
   omega
  obtain ⟨k1,k2,k3,k4,k5⟩:=hk
  have i2':(ik == 2) = false:=by simpa using k1
  have i3':(ik == 3) = false:=by simpa using k2
  have i4':(ik == 4) = false:=by simpa using k3
  have i5':(ik == 10) = false:=by simpa using k4
  have i6':(ik == 11) = false:=by simpa using k5
  clear hnr hb r0 r1 r2 hnd hrdl hlsl hrdi hlsi t0_ t1_ t2_ t3_ e1 e2 e3 e4 e5 hIv hgd htk k1 k2 k3 k4 k5 hokR
  go_enter Tryz.func79,Tryz.ntmps79
  go_upto_region 22 with fail
  obtain ⟨X,hX⟩:∃ X,W0.alloc (Obj.cells #[.int .i64 ik,.string ix,.int .i64 ic,.slice A1 is.length c1] 24) = X:=⟨_,rfl⟩
  rw [hX]
  obtain ⟨⟨y0,y1,y2,y3⟩,_,hbX⟩:=KW.out ik ix ic (.slice A1 is.length c1) X (by rw [hX];exact Below.refl _ _)
  obtain ⟨⟨m0,m1,m2,m3,m4,m5,m6,m7⟩,hbw⟩:=KB.out X hbX
  have HKX:=hid hbw
  clear hbX hbw hX x0 x1 x2 x3
  go_wp2_with fail
  refine bodyPost_ret (v:=.tuple #[.slice none 0 0,.int .i64 7]) (by simp [results,Tryz.results79,go_sem]) rfl ?_
  exact ⟨_,rfl,zAa.nil_ 0 (Nat.zero_le _) none,HKX.out⟩
 have hk:ik = 2∨ik = 3∨ik = 4∨ik = 10∨ik = 11:=by
  unfold zCt at htk
  simpa only [decide_eq_true_eq] using htk
 have P3:res = if bT = true then (zAv l a b [.mk ik text ic is],0) else ([],7):=by
  cases bT
  ·exact P1 (by simp)
  ·exact P2 ⟨htk,rfl⟩
 rw [P3]
 clear P1 P2 P3
 generalize zAv l a b [.mk ik text ic is] = L at *
 clear hnr hb r0 r1 r2 hnd hrdl hlsl hrdi hlsi t0_ t1_ t2_ t3_ e1 e2 e3 e4 e5 hIv hgd htk hokR
 rcases hk with rfl | rfl | rfl | rfl | rfl
 ·cases bT
  ·go_enter Tryz.func79,Tryz.ntmps79
   go_upto_region 22 with fail
   obtain ⟨X,hX⟩:∃ X,W0.alloc (Obj.cells #[.int .i64 2,.string ix,.int .i64 ic,.slice A1 is.length c1] 24) = X:=⟨_,rfl⟩
   rw [hX]
   obtain ⟨hy,⟨f0,f1,f2,f3⟩,hbX⟩:=KW.out 2 ix ic (.slice A1 is.length c1) X (by rw [hX];exact Below.refl _ _)
   have HY:=hid hy
   obtain ⟨y0,y1,y2,y3⟩:=hy
   obtain ⟨⟨m0,m1,m2,m3,m4,m5,m6,m7⟩,hbw⟩:=KB.out X hbX
   have HKX:=hid hbw
   have HBX:=hid hbX
   have HZX:Hid (W0.heap.size < X.heap.size):=by show _ < _;rw [← hX];simp
   clear hbX hbw hX x0 x1 x2 x3
   go_wp2_with fail
   refine bodyPost_ret (v:=.tuple #[.slice none 0 0,.int .i64 7]) (by simp [results,Tryz.results79,go_sem]) rfl ?_
   exact ⟨_,rfl,zAa.nil_ 0 (Nat.zero_le _) none,HKX.out⟩
  ·go_enter Tryz.func79,Tryz.ntmps79
   go_upto_region 22 with fail
   obtain ⟨X,hX⟩:∃ X,W0.alloc (Obj.cells #[.int .i64 2,.string ix,.int .i64 ic,.slice A1 is.length c1] 24) = X:=⟨_,rfl⟩
   rw [hX]
   obtain ⟨hy,⟨f0,f1,f2,f3⟩,hbX⟩:=KW.out 2 ix ic (.slice A1 is.length c1) X (by rw [hX];exact Below.refl _ _)
   have HY:=hid hy
   obtain ⟨y0,y1,y2,y3⟩:=hy
   obtain ⟨⟨m0,m1,m2,m3,m4,m5,m6,m7⟩,hbw⟩:=KB.out X hbX
   have HKX:=hid hbw
   have HBX:=hid hbX
   have HZX:Hid (W0.heap.size < X.heap.size):=by show _ < _;rw [← hX];simp
   clear hbX hbw hX x0 x1 x2 x3
   go_upto_region 34 with fail
   obtain ⟨Y,hY⟩:∃ Y,X.setCell ⟨W0.heap.size,1,none⟩ (.string text) = Y:=⟨_,rfl⟩
   rw [hY]
   have z1:Y.cell? ⟨W0.heap.size,1,none⟩ = some (.string text):=by rw [← hY];exact World.cell?_setCell_same _ _ _ HY.out.2.1
   have z0:Y.cell? ⟨W0.heap.size,0,none⟩ = some (.int .i64 2):=by rw [← hY];exact (World.cell?_setCell_other _ _ _ _ (by simp)).trans HY.out.1
   have z2:Y.cell? ⟨W0.heap.size,2,none⟩ = some (.int .i64 ic):=by rw [← hY];exact (World.cell?_setCell_other _ _ _ _ (by simp)).trans HY.out.2.2.1
   have z3:Y.cell? ⟨W0.heap.size,3,none⟩ = some (.slice A1 is.length c1):=by rw [← hY];exact (World.cell?_setCell_other _ _ _ _ (by simp)).trans HY.out.2.2.2
   have hYB:Below W0.heap.size W0 Y:=by rw [← hY];exact HBX.out.setCell (Nat.le_refl _) _
   obtain ⟨⟨m0,m1,m2,m3,m4,m5,m6,m7⟩,hbw⟩:=KB.out Y hYB
   have HKY:=hid hbw
   have HRI:Hid (zAa zAb Y (NS S W0.heap.size Y) is (.slice A1 is.length c1)):=(zBg HIV.out HSS.out hbw).keep (fun _ _=>rfl) (fun q hq=>.inl hq)
   have HYZ:=hid hYB.size
   clear hYB hbw hY y0 y1 y2 y3
   go_wp2_with fail
   refine (CS.out _ W0.heap.size _ (zAp HKY.out _) HB0.out.size (zEv HOK.out HRI.out (fun q hq=>Nat.lt_of_lt_of_le (HSS.out q hq) HKY.out.size) HYZ.out (Below.refl _ _) rfl) _ rfl).mono ?_
   rintro e w6 ⟨v6,rfl,hr6,hb6⟩
   have HR6:=hid hr6
   have HK6:=hid (zAq (zAp HKY.out _) hb6)
   have HW6:=hid hb6.size
   clear hr6 hb6
   go_wp2_with fail
   refine bodyPost_ret (v:=.tuple #[v6,.int .i64 0]) (by simp [results,Tryz.results79,go_sem]) rfl ?_
   have hz0:=HB0.out.size
   have hz5:=HYZ.out
   exact ⟨v6,rfl,HR6.out.keep (fun _ _=>rfl) (fun q hq=>by
    rcases hq with (hq | hq) | hq
    ·exact .inl hq
    ·exact .inr ⟨by omega,Nat.lt_of_lt_of_le hq.2 HW6.out⟩
    ·exact .inr ⟨by have:=hq.1;simp at this;omega,hq.2⟩),HK6.out⟩
 ·cases bT
  ·go_enter Tryz.func79,Tryz.ntmps79
   go_upto_region 22 with fail
   obtain ⟨X,hX⟩:∃ X,W0.alloc (Obj.cells #[.int .i64 3,.string ix,.int .i64 ic,.slice A1 is.length c1] 24) = X:=⟨_,rfl⟩
   rw [hX]
   obtain ⟨hy,⟨f0,f1,f2,f3⟩,hbX⟩:=KW.out 3 ix ic (.slice A1 is.length c1) X (by rw [hX];exact Below.refl _ _)
   have HY:=hid hy
   obtain ⟨y0,y1,y2,y3⟩:=hy
   obtain ⟨⟨m0,m1,m2,m3,m4,m5,m6,m7⟩,hbw⟩:=KB.out X hbX
   have HKX:=hid hbw
   have HBX:=hid hbX
   have HZX:Hid (W0.heap.size < X.heap.size):=by show _ < _;rw [← hX];simp
   clear hbX hbw hX x0 x1 x2 x3
   go_wp2_with fail
   refine bodyPost_ret (v:=.tuple #[.slice none 0 0,.int .i64 7]) (by simp [results,Tryz.results79,go_sem]) rfl ?_
   exact ⟨_,rfl,zAa.nil_ 0 (Nat.zero_le _) none,HKX.out⟩
  ·go_enter Tryz.func79,Tryz.ntmps79
   go_upto_region 22 with fail
   obtain ⟨X,hX⟩:∃ X,W0.alloc (Obj.cells #[.int .i64 3,.string ix,.int .i64 ic,.slice A1 is.length c1] 24) = X:=⟨_,rfl⟩
   rw [hX]
   obtain ⟨hy,⟨f0,f1,f2,f3⟩,hbX⟩:=KW.out 3 ix ic (.slice A1 is.length c1) X (by rw [hX];exact Below.refl _ _)
   have HY:=hid hy
   obtain ⟨y0,y1,y2,y3⟩:=hy
   obtain ⟨⟨m0,m1,m2,m3,m4,m5,m6,m7⟩,hbw⟩:=KB.out X hbX
   have HKX:=hid hbw
   have HBX:=hid hbX
   have HZX:Hid (W0.heap.size < X.heap.size):=by show _ < _;rw [← hX];simp
   clear hbX hbw hX x0 x1 x2 x3
   go_upto_region 34 with fail
   obtain ⟨Y,hY⟩:∃ Y,X.setCell ⟨W0.heap.size,1,none⟩ (.string text) = Y:=⟨_,rfl⟩
   rw [hY]
   have z1:Y.cell? ⟨W0.heap.size,1,none⟩ = some (.string text):=by rw [← hY];exact World.cell?_setCell_same _ _ _ HY.out.2.1
   have z0:Y.cell? ⟨W0.heap.size,0,none⟩ = some (.int .i64 3):=by rw [← hY];exact (World.cell?_setCell_other _ _ _ _ (by simp)).trans HY.out.1
   have z2:Y.cell? ⟨W0.heap.size,2,none⟩ = some (.int .i64 ic):=by rw [← hY];exact (World.cell?_setCell_other _ _ _ _ (by simp)).trans HY.out.2.2.1
   have z3:Y.cell? ⟨W0.heap.size,3,none⟩ = some (.slice A1 is.length c1):=by rw [← hY];exact (World.cell?_setCell_other _ _ _ _ (by simp)).trans HY.out.2.2.2
   have hYB:Below W0.heap.size W0 Y:=by rw [← hY];exact HBX.out.setCell (Nat.le_refl _) _
   obtain ⟨⟨m0,m1,m2,m3,m4,m5,m6,m7⟩,hbw⟩:=KB.out Y hYB
   have HKY:=hid hbw
   have HRI:Hid (zAa zAb Y (NS S W0.heap.size Y) is (.slice A1 is.length c1)):=(zBg HIV.out HSS.out hbw).keep (fun _ _=>rfl) (fun q hq=>.inl hq)
   have HYZ:=hid hYB.size
   clear hYB hbw hY y0 y1 y2 y3
   go_wp2_with fail
   refine (CS.out _ W0.heap.size _ (zAp HKY.out _) HB0.out.size (zEv HOK.out HRI.out (fun q hq=>Nat.lt_of_lt_of_le (HSS.out q hq) HKY.out.size) HYZ.out (Below.refl _ _) rfl) _ rfl).mono ?_
   rintro e w6 ⟨v6,rfl,hr6,hb6⟩
   have HR6:=hid hr6
   have HK6:=hid (zAq (zAp HKY.out _) hb6)
   have HW6:=hid hb6.size
   clear hr6 hb6
   go_wp2_with fail
   refine bodyPost_ret (v:=.tuple #[v6,.int .i64 0]) (by simp [results,Tryz.results79,go_sem]) rfl ?_
   have hz0:=HB0.out.size
   have hz5:=HYZ.out
   exact ⟨v6,rfl,HR6.out.keep (fun _ _=>rfl) (fun q hq=>by
    rcases hq with (hq | hq) | hq
    ·exact .inl hq
    ·exact .inr ⟨by omega,Nat.lt_of_lt_of_le hq.2 HW6.out⟩
    ·exact .inr ⟨by have:=hq.1;simp at this;omega,hq.2⟩),HK6.out⟩
 ·cases bT
  ·go_enter Tryz.func79,Tryz.ntmps79
   go_upto_region 22 with fail
   obtain ⟨X,hX⟩:∃ X,W0.alloc (Obj.cells #[.int .i64 4,.string ix,.int .i64 ic,.slice A1 is.length c1] 24) = X:=⟨_,rfl⟩
   rw [hX]
   obtain ⟨hy,⟨f0,f1,f2,f3⟩,hbX⟩:=KW.out 4 ix ic (.slice A1 is.length c1) X (by rw [hX];exact Below.refl _ _)
   have HY:=hid hy
   obtain ⟨y0,y1,y2,y3⟩:=hy
   obtain ⟨⟨m0,m1,m2,m3,m4,m5,m6,m7⟩,hbw⟩:=KB.out X hbX
   have HKX:=hid hbw
   have HBX:=hid hbX
   have HZX:Hid (W0.heap.size < X.heap.size):=by show _ < _;rw [← hX];simp
   clear hbX hbw hX x0 x1 x2 x3
   go_wp2_with fail
   refine bodyPost_ret (v:=.tuple #[.slice none 0 0,.int .i64 7]) (by simp [results,Tryz.results79,go_sem]) rfl ?_
   exact ⟨_,rfl,zAa.nil_ 0 (Nat.zero_le _) none,HKX.out⟩
  ·go_enter Tryz.func79,Tryz.ntmps79
   go_upto_region 22 with fail
   obtain ⟨X,hX⟩:∃ X,W0.alloc (Obj.cells #[.int .i64 4,.string ix,.int .i64 ic,.slice A1 is.length c1] 24) = X:=⟨_,rfl⟩
   rw [hX]
   obtain ⟨hy,⟨f0,f1,f2,f3⟩,hbX⟩:=KW.out 4 ix ic (.slice A1 is.length c1) X (by rw [hX];exact Below.refl _ _)
   have HY:=hid hy
   obtain ⟨y0,y1,y2,y3⟩:=hy
   obtain ⟨⟨m0,m1,m2,m3,m4,m5,m6,m7⟩,hbw⟩:=KB.out X hbX
   have HKX:=hid hbw
   have HBX:=hid hbX
   have HZX:Hid (W0.heap.size < X.heap.size):=by show _ < _;rw [← hX];simp
   clear hbX hbw hX x0 x1 x2 x3
   go_upto_region 34 with fail
   obtain ⟨Y,hY⟩:∃ Y,X.setCell ⟨W0.heap.size,1,none⟩ (.string text) = Y:=⟨_,rfl⟩
   rw [hY]
   have z1:Y.cell? ⟨W0.heap.size,1,none⟩ = some (.string text):=by rw [← hY];exact World.cell?_setCell_same _ _ _ HY.out.2.1
   have z0:Y.cell? ⟨W0.heap.size,0,none⟩ = some (.int .i64 4):=by rw [← hY];exact (World.cell?_setCell_other _ _ _ _ (by simp)).trans HY.out.1
   have z2:Y.cell? ⟨W0.heap.size,2,none⟩ = some (.int .i64 ic):=by rw [← hY];exact (World.cell?_setCell_other _ _ _ _ (by simp)).trans HY.out.2.2.1
   have z3:Y.cell? ⟨W0.heap.size,3,none⟩ = some (.slice A1 is.length c1):=by rw [← hY];exact (World.cell?_setCell_other _ _ _ _ (by simp)).trans HY.out.2.2.2
   have hYB:Below W0.heap.size W0 Y:=by rw [← hY];exact HBX.out.setCell (Nat.le_refl _) _
   obtain ⟨⟨m0,m1,m2,m3,m4,m5,m6,m7⟩,hbw⟩:=KB.out Y hYB
   have HKY:=hid hbw
   have HRI:Hid (zAa zAb Y (NS S W0.heap.size Y) is (.slice A1 is.length c1)):=(zBg HIV.out HSS.out hbw).keep (fun _ _=>rfl) (fun q hq=>.inl hq)
   have HYZ:=hid hYB.size
   clear hYB hbw hY y0 y1 y2 y3
   go_wp2_with fail
   refine (CS.out _ W0.heap.size _ (zAp HKY.out _) HB0.out.size (zEv HOK.out HRI.out (fun q hq=>Nat.lt_of_lt_of_le (HSS.out q hq) HKY.out.size) HYZ.out (Below.refl _ _) rfl) _ rfl).mono ?_
   rintro e w6 ⟨v6,rfl,hr6,hb6⟩
   have HR6:=hid hr6
   have HK6:=hid (zAq (zAp HKY.out _) hb6)
   have HW6:=hid hb6.size
   clear hr6 hb6
   go_wp2_with fail
   refine bodyPost_ret (v:=.tuple #[v6,.int .i64 0]) (by simp [results,Tryz.results79,go_sem]) rfl ?_
   have hz0:=HB0.out.size
   have hz5:=HYZ.out
   exact ⟨v6,rfl,HR6.out.keep (fun _ _=>rfl) (fun q hq=>by
    rcases hq with (hq | hq) | hq
    ·exact .inl hq
    ·exact .inr ⟨by omega,Nat.lt_of_lt_of_le hq.2 HW6.out⟩
    ·exact .inr ⟨by have:=hq.1;simp at this;omega,hq.2⟩),HK6.out⟩
 ·cases bT
  ·go_enter Tryz.func79,Tryz.ntmps79
   go_upto_region 22 with fail
   obtain ⟨X,hX⟩:∃ X,W0.alloc (Obj.cells #[.int .i64 10,.string ix,.int .i64 ic,.slice A1 is.length c1] 24) = X:=⟨_,rfl⟩
   rw [hX]
   obtain ⟨hy,⟨f0,f1,f2,f3⟩,hbX⟩:=KW.out 10 ix ic (.slice A1 is.length c1) X (by rw [hX];exact Below.refl _ _)
   have HY:=hid hy
   obtain ⟨y0,y1,y2,y3⟩:=hy
   obtain ⟨⟨m0,m1,m2,m3,m4,m5,m6,m7⟩,hbw⟩:=KB.out X hbX
   have HKX:=hid hbw
   have HBX:=hid hbX
   have HZX:Hid (W0.heap.size < X.heap.size):=by show _ < _;rw [← hX];simp
   clear hbX hbw hX x0 x1 x2 x3
   go_wp2_with fail
   refine bodyPost_ret (v:=.tuple #[.slice none 0 0,.int .i64 7]) (by simp [results,Tryz.results79,go_sem]) rfl ?_
   exact ⟨_,rfl,zAa.nil_ 0 (Nat.zero_le _) none,HKX.out⟩
  ·go_enter Tryz.func79,Tryz.ntmps79
   go_upto_region 22 with fail
   obtain ⟨X,hX⟩:∃ X,W0.alloc (Obj.cells #[.int .i64 10,.string ix,.int .i64 ic,.slice A1 is.length c1] 24) = X:=⟨_,rfl⟩
   rw [hX]
   obtain ⟨hy,⟨f0,f1,f2,f3⟩,hbX⟩:=KW.out 10 ix ic (.slice A1 is.length c1) X (by rw [hX];exact Below.refl _ _)
   have HY:=hid hy
   obtain ⟨y0,y1,y2,y3⟩:=hy
   obtain ⟨⟨m0,m1,m2,m3,m4,m5,m6,m7⟩,hbw⟩:=KB.out X hbX
   have HKX:=hid hbw
   have HBX:=hid hbX
   have HZX:Hid (W0.heap.size < X.heap.size):=by show _ < _;rw [← hX];simp
   clear hbX hbw hX x0 x1 x2 x3
   go_upto_region 34 with fail
   obtain ⟨Y,hY⟩:∃ Y,X.setCell ⟨W0.heap.size,1,none⟩ (.string text) = Y:=⟨_,rfl⟩
   rw [hY]
   have z1:Y.cell? ⟨W0.heap.size,1,none⟩ = some (.string text):=by rw [← hY];exact World.cell?_setCell_same _ _ _ HY.out.2.1
   have z0:Y.cell? ⟨W0.heap.size,0,none⟩ = some (.int .i64 10):=by rw [← hY];exact (World.cell?_setCell_other _ _ _ _ (by simp)).trans HY.out.1
   have z2:Y.cell? ⟨W0.heap.size,2,none⟩ = some (.int .i64 ic):=by rw [← hY];exact (World.cell?_setCell_other _ _ _ _ (by simp)).trans HY.out.2.2.1
   have z3:Y.cell? ⟨W0.heap.size,3,none⟩ = some (.slice A1 is.length c1):=by rw [← hY];exact (World.cell?_setCell_other _ _ _ _ (by simp)).trans HY.out.2.2.2
   have hYB:Below W0.heap.size W0 Y:=by rw [← hY];exact HBX.out.setCell (Nat.le_refl _) _
   obtain ⟨⟨m0,m1,m2,m3,m4,m5,m6,m7⟩,hbw⟩:=KB.out Y hYB
   have HKY:=hid hbw
   have HRI:Hid (zAa zAb Y (NS S W0.heap.size Y) is (.slice A1 is.length c1)):=(zBg HIV.out HSS.out hbw).keep (fun _ _=>rfl) (fun q hq=>.inl hq)
   have HYZ:=hid hYB.size
   clear hYB hbw hY y0 y1 y2 y3
   go_wp2_with fail
   refine (CS.out _ W0.heap.size _ (zAp HKY.out _) HB0.out.size (zEv HOK.out HRI.out (fun q hq=>Nat.lt_of_lt_of_le (HSS.out q hq) HKY.out.size) HYZ.out (Below.refl _ _) rfl) _ rfl).mono ?_
   rintro e w6 ⟨v6,rfl,hr6,hb6⟩
   have HR6:=hid hr6
   have HK6:=hid (zAq (zAp HKY.out _) hb6)
   have HW6:=hid hb6.size
   clear hr6 hb6
   go_wp2_with fail
   refine bodyPost_ret (v:=.tuple #[v6,.int .i64 0]) (by simp [results,Tryz.results79,go_sem]) rfl ?_
   have hz0:=HB0.out.size
   have hz5:=HYZ.out
   exact ⟨v6,rfl,HR6.out.keep (fun _ _=>rfl) (fun q hq=>by
    rcases hq with (hq | hq) | hq
    ·exact .inl hq
    ·exact .inr ⟨by omega,Nat.lt_of_lt_of_le hq.2 HW6.out⟩
    ·exact .inr ⟨by have:=hq.1;simp at this;omega,hq.2⟩),HK6.out⟩
 ·cases bT
  ·go_enter Tryz.func79,Tryz.ntmps79
   go_upto_region 22 with fail
   obtain ⟨X,hX⟩:∃ X,W0.alloc (Obj.cells #[.int .i64 11,.string ix,.int .i64 ic,.slice A1 is.length c1] 24) = X:=⟨_,rfl⟩
   rw [hX]
   obtain ⟨hy,⟨f0,f1,f2,f3⟩,hbX⟩:=KW.out 11 ix ic (.slice A1 is.length c1) X (by rw [hX];exact Below.refl _ _)
   have HY:=hid hy
   obtain ⟨y0,y1,y2,y3⟩:=hy
   obtain ⟨⟨m0,m1,m2,m3,m4,m5,m6,m7⟩,hbw⟩:=KB.out X hbX
   have HKX:=hid hbw
   have HBX:=hid hbX
   have HZX:Hid (W0.heap.size < X.heap.size):=by show _ < _;rw [← hX];simp
   clear hbX hbw hX x0 x1 x2 x3
   go_wp2_with fail
   refine bodyPost_ret (v:=.tuple #[.slice none 0 0,.int .i64 7]) (by simp [results,Tryz.results79,go_sem]) rfl ?_
   exact ⟨_,rfl,zAa.nil_ 0 (Nat.zero_le _) none,HKX.out⟩
  ·go_enter Tryz.func79,Tryz.ntmps79
   go_upto_region 22 with fail
   obtain ⟨X,hX⟩:∃ X,W0.alloc (Obj.cells #[.int .i64 11,.string ix,.int .i64 ic,.slice A1 is.length c1] 24) = X:=⟨_,rfl⟩
   rw [hX]
   obtain ⟨hy,⟨f0,f1,f2,f3⟩,hbX⟩:=KW.out 11 ix ic (.slice A1 is.length c1) X (by rw [hX];exact Below.refl _ _)
   have HY:=hid hy
   obtain ⟨y0,y1,y2,y3⟩:=hy
   obtain ⟨⟨m0,m1,m2,m3,m4,m5,m6,m7⟩,hbw⟩:=KB.out X hbX
   have HKX:=hid hbw
   have HBX:=hid hbX
   have HZX:Hid (W0.heap.size < X.heap.size):=by show _ < _;rw [← hX];simp
   clear hbX hbw hX x0 x1 x2 x3
   go_upto_region 34 with fail
   obtain ⟨Y,hY⟩:∃ Y,X.setCell ⟨W0.heap.size,1,none⟩ (.string text) = Y:=⟨_,rfl⟩
   rw [hY]
   have z1:Y.cell? ⟨W0.heap.size,1,none⟩ = some (.string text):=by rw [← hY];exact World.cell?_setCell_same _ _ _ HY.out.2.1
   have z0:Y.cell? ⟨W0.heap.size,0,none⟩ = some (.int .i64 11):=by rw [← hY];exact (World.cell?_setCell_other _ _ _ _ (by simp)).trans HY.out.1
   have z2:Y.cell? ⟨W0.heap.size,2,none⟩ = some (.int .i64 ic):=by rw [← hY];exact (World.cell?_setCell_other _ _ _ _ (by simp)).trans HY.out.2.2.1
   have z3:Y.cell? ⟨W0.heap.size,3,none⟩ = some (.slice A1 is.length c1):=by rw [← hY];exact (World.cell?_setCell_other _ _ _ _ (by simp)).trans HY.out.2.2.2
   have hYB:Below W0.heap.size W0 Y:=by rw [← hY];exact HBX.out.setCell (Nat.le_refl _) _
   obtain ⟨⟨m0,m1,m2,m3,m4,m5,m6,m7⟩,hbw⟩:=KB.out Y hYB
   have HKY:=hid hbw
   have HRI:Hid (zAa zAb Y (NS S W0.heap.size Y) is (.slice A1 is.length c1)):=(zBg HIV.out HSS.out hbw).keep (fun _ _=>rfl) (fun q hq=>.inl hq)
   have HYZ:=hid hYB.size
   clear hYB hbw hY y0 y1 y2 y3
   go_wp2_with fail
   refine (CS.out _ W0.heap.size _ (zAp HKY.out _) HB0.out.size (zEv HOK.out HRI.out (fun q hq=>Nat.lt_of_lt_of_le (HSS.out q hq) HKY.out.size) HYZ.out (Below.refl _ _) rfl) _ rfl).mono ?_
   rintro e w6 ⟨v6,rfl,hr6,hb6⟩
   have HR6:=hid hr6
   have HK6:=hid (zAq (zAp HKY.out _) hb6)
   have HW6:=hid hb6.size
   clear hr6 hb6
   go_wp2_with fail
   refine bodyPost_ret (v:=.tuple #[v6,.int .i64 0]) (by simp [results,Tryz.results79,go_sem]) rfl ?_
   have hz0:=HB0.out.size
   have hz5:=HYZ.out
   exact ⟨v6,rfl,HR6.out.keep (fun _ _=>rfl) (fun q hq=>by
    rcases hq with (hq | hq) | hq
    ·exact .inl hq
    ·exact .inr ⟨by omega,Nat.lt_of_lt_of_le hq.2 HW6.out⟩
    ·exact .inr ⟨by have:=hq.1;simp at this;omega,hq.2⟩),HK6.out⟩
end Go.Proofs.YtbjcioknfjofkaaGreat
