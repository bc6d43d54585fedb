/- Texts put together. -/
import Derived.Test.YtbjcioknfjofkaaGreatQ8c13868fc1
set_option linter.unusedVariables false
set_option linter.unusedSimpArgs false
set_option maxRecDepth 100000
namespace Go.Proofs.YtbjcioknfjofkaaGreat
open Go.RowKit
set_option maxHeartbeats 8000000 in
theorem chg_unw (l:List Tree) (row:List Int) (at_ n slot:Int) (nodes:List Tree) (old text:ByteArray) (A Ar An:Option Addr) (cap lr cr cn:Nat) (w:World) (S:Nat→Prop) (hS:∀ q,S q→q < w.heap.size) (hl:zAa zAb w S l (.slice A l.length cap)) (hn:zAa zAb w S nodes (.slice An nodes.length cn)) (hat:In64 at_) (hcl:zAd l≤1000000) (hcn:zAd nodes≤1000000) (hn0:0≤n) (htm:zA9 nodes slot = true) :
  Calls Tryz.prog 79 #[.slice A l.length cap,.agg (opC ⟨4,row,at_,n,nodes,slot,old,text⟩ (.slice Ar lr cr) (.slice An nodes.length cn))] w (zCa S w (zAi l ⟨4,row,at_,n,nodes,slot,old,text⟩)):=by
 have hll:l.length≤1000000:=by have:=zBf l;omega
 have hln:nodes.length≤1000000:=by have:=zBf nodes;omega
 have hnd:zCv ⟨4,row,at_,n,nodes,slot,old,text⟩ = 1:=by simp [zCv]
 have HSS:=hid hS
 generalize hW0:w.alloc (.cells (opC ⟨4,row,at_,n,nodes,slot,old,text⟩ (.slice Ar lr cr) (.slice An nodes.length cn)) 67) = W0
 have hz0:W0.heap.size = w.heap.size + 1:=by rw [← hW0];simp
 have KB:Hid (∀ W,Below W0.heap.size W0 W→zDa W w.heap.size ⟨4,row,at_,n,nodes,slot,old,text⟩ (.slice Ar lr cr) (.slice An nodes.length cn)∧Below w.heap.size w W):=fun W hW=>by
  have h0:zDa W0 w.heap.size ⟨4,row,at_,n,nodes,slot,old,text⟩ (.slice Ar lr cr) (.slice An nodes.length cn):=by rw [← hW0];exact zDa.new _ _ _ _ _
  have hB0:Below w.heap.size w W0:=by rw [← hW0];exact blA _ _
  exact ⟨h0.below hW (by omega),hB0.trans (hW.mono hB0.size)⟩
 obtain ⟨⟨m0,m1,m2,m3,m4,m5,m6,m7⟩,hB0⟩:=KB.out W0 (Below.refl _ _)
 have HB0:=hid hB0
 have HZ0:=hid hz0
 have HL:=hid hl
 have HN:=hid hn
 simp only [opC] at *
 clear hS hl hn hB0 hz0
 rcases Int.lt_or_le at_ 0 with r0 | r0
 ·have i0:decide (at_ < 0) = true:=by simpa using r0
  have hr:zAi l ⟨4,row,at_,n,nodes,slot,old,text⟩ = ([],2):=if_pos (by rw [hnd];simp only;omega)
  rw [hr]
  clear hr hnd
  go_enter Tryz.func79,Tryz.ntmps79
  go_wp2_with fail
  refine bodyPost_ret (v:=.tuple #[.slice none 0 0,.int .i64 2]) (by simp [results,Tryz.results79,go_sem]) rfl ?_
  exact ⟨_,rfl,zAa.nil_ 0 (Nat.zero_le _) none,HB0.out⟩
 have i0:decide (at_ < 0) = false:=by simpa using r0
 rcases Int.lt_or_le (l.length:Int) at_ with r1 | r1
 ·have i1:decide ((l.length:Int) < at_) = true:=by simpa using r1
  have hr:zAi l ⟨4,row,at_,n,nodes,slot,old,text⟩ = ([],2):=if_pos (by rw [hnd];simp only;omega)
  rw [hr]
  clear hr hnd
  go_enter Tryz.func79,Tryz.ntmps79
  go_wp2_with fail
  refine bodyPost_ret (v:=.tuple #[.slice none 0 0,.int .i64 2]) (by simp [results,Tryz.results79,go_sem]) rfl ?_
  exact ⟨_,rfl,zAa.nil_ 0 (Nat.zero_le _) none,HB0.out⟩
 have i1:decide ((l.length:Int) < at_) = false:=by simpa using r1
 have w1:IntKind.i64.wrap ((l.length:Int) - at_) = (l.length:Int) - at_:=IntWalk.i64_in _ (by omega)
 rcases Int.lt_or_le ((l.length:Int) - at_) (1) with r2 | r2
 ·have i2:decide ((l.length:Int) - at_ < 1) = true:=by simpa using r2
  have hr:zAi l ⟨4,row,at_,n,nodes,slot,old,text⟩ = ([],2):=if_pos (by rw [hnd];simp only;omega)
  rw [hr]
  clear hr hnd
  go_enter Tryz.func79,Tryz.ntmps79
  go_wp2_with fail
  refine bodyPost_ret (v:=.tuple #[.slice none 0 0,.int .i64 2]) (by simp [results,Tryz.results79,go_sem]) rfl ?_
  exact ⟨_,rfl,zAa.nil_ 0 (Nat.zero_le _) none,HB0.out⟩
 have i2:decide ((l.length:Int) - at_ < 1) = false:=by simpa using r2
 have w2:IntKind.i64.wrap (at_ + 1) = at_ + 1:=IntWalk.i64_in _ (by omega)
 have w3:IntKind.i64.wrap at_ = at_:=IntWalk.i64_in _ (by omega)
 have hnr:¬ (at_ < 0∨(l.length:Int) < at_∨(l.length:Int) - at_ < zCv ⟨4,row,at_,n,nodes,slot,old,text⟩):=by rw [hnd];omega
 obtain ⟨a,ha⟩:∃ a:Nat,at_ = a:=⟨at_.toNat,by omega⟩
 obtain ⟨b,hb⟩:∃ b:Nat,at_ + 1 = b:=⟨(at_ + 1).toNat,by omega⟩
 have hai:a < l.length:=by omega
 obtain ⟨t0,hnd1,hs0,hs1,hke⟩:=zE4 htm
 subst hnd1
 have hn0':=HN.out
 obtain ⟨_,_,rs0,hq,_,_,hrd0,hls0⟩:=hn0'
 cases hq
 obtain ⟨g0,o0,A0,c0,rs1,rfl,hg0,t00,t01,t02,t03,b1,b2,b3,b4,b5,hrd1,hls1⟩:=zAy hrd0 hls0 (k:=0) (by simp)
 simp only [Nat.zero_mul,Nat.add_zero,List.getElem_cons_zero,List.length_cons,List.length_nil,Nat.zero_add] at t00 t01 t02 t03 b1 b2 b3 b4 b5 hrd1 hls1 m0 m1 m2 m3 m4 m5 m6 m7 hW0
 have hok0:zAu t0:=⟨b1,b2,b3⟩
 have ht0v:zAa zAb w S t0.kids (.slice A0 t0.kids.length c0):=⟨_,_,rs1,rfl,b4,b5,hrd1,hls1⟩
 have hgl0:g0 < w.heap.size:=HSS.out _ hg0
 have KN:Hid (∀ W,Below w.heap.size w W→W.cell? ⟨g0,o0,none⟩ = some (.int .i64 t0.kind)∧W.cell? ⟨g0,o0 + 1,none⟩ = some (.string t0.text)∧W.cell? ⟨g0,o0 + 2,none⟩ = some (.int .i64 t0.cols)∧W.cell? ⟨g0,o0 + 3,none⟩ = some (.slice A0 t0.kids.length c0)):=fun W hW =>
  ⟨(hW.cell (p:=⟨g0,_,none⟩) hgl0).trans t00,(hW.cell (p:=⟨g0,_,none⟩) hgl0).trans t01,(hW.cell (p:=⟨g0,_,none⟩) hgl0).trans t02,(hW.cell (p:=⟨g0,_,none⟩) hgl0).trans t03⟩
 obtain ⟨s',hs'⟩:∃ s':Nat,slot = s':=⟨slot.toNat,by omega⟩
 have hs2:s' < t0.kids.length:=by omega
 have htl:t0.kids.length≤1000000:=by
  have h1:=zAn t0
  have h2:zAd [t0] = zAe t0 + 0:=rfl
  omega
 obtain ⟨_,_,rl0,hq,_,_,hrdl,hlsl⟩:=id HL.out
 cases hq
 obtain ⟨g,o,A1,c1,rl1,rfl,hg,t0_,t1_,t2_,t3_,e1,e2,e3,e4,e5,hrdi,hlsi⟩:=zAy hrdl hlsl hai
 have hIv:zAa zAb w S l[a].kids (.slice A1 l[a].kids.length c1):=⟨_,_,rl1,rfl,e4,e5,hrdi,hlsi⟩
 have hgl:g < w.heap.size:=HSS.out _ hg
 have KI:Hid (∀ W,Below w.heap.size w W→W.cell? ⟨g,o + a * 4,none⟩ = some (.int .i64 l[a].kind)∧W.cell? ⟨g,o + a * 4 + 1,none⟩ = some (.string l[a].text)∧W.cell? ⟨g,o + a * 4 + 2,none⟩ = some (.int .i64 l[a].cols)∧W.cell? ⟨g,o + a * 4 + 3,none⟩ = some (.slice A1 l[a].kids.length c1)):=fun W hW =>
  ⟨(hW.cell (p:=⟨g,_,none⟩) hgl).trans t0_,(hW.cell (p:=⟨g,_,none⟩) hgl).trans t1_,(hW.cell (p:=⟨g,_,none⟩) hgl).trans t2_,(hW.cell (p:=⟨g,_,none⟩) hgl).trans t3_⟩
 have hgd:l.getD a zAx = l[a]:=by rw [List.getD_eq_getElem?_getD,List.getElem?_eq_getElem hai];rfl
 subst ha
 subst hs'
 have hr0:zAi l ⟨4,row,(a:Int),n,[t0],(s':Int),old,text⟩ = (if l[a].kids.length≤(s':Int)∨((kidS l[a] (s':Int)).kids.length:Int)≠n∨eqS l[a] (zAr t0 s' (kidS l[a] (s':Int)).kids) = false then ([],7) else (zAv l a b (kidS l[a] (s':Int)).kids,0)):=by
  unfold zAi
  rw [if_neg hnr,if_neg (by simp),if_neg (by simp),if_neg (by simp),if_pos rfl]
  simp only [hb,Int.toNat_natCast,List.headD_cons,hgd]
 rw [hr0]
 clear hr0
 have j0:(0:Int)≤(a:Int):=by omega
 have j1:(a:Int) < (l.length:Int):=by omega
 obtain ⟨x0,x1,x2,x3⟩:=KI.out W0 HB0.out
 have KW:Hid (∀ k x c v W,Below (W0.alloc (Obj.cells #[.int .i64 k,.string x,.int .i64 c,v] 24)).heap.size (W0.alloc (Obj.cells #[.int .i64 k,.string x,.int .i64 c,v] 24)) W→Box4 W W0.heap.size k x c v∧Below W0.heap.size W0 W):=fun k x c v W hW =>
  ⟨(Box4.new W0 k x c v _).below hW (by simp),(blA _ _).trans (hW.mono (by simp))⟩
 have j2:(0:Int)≤(s':Int):=by omega
 by_cases hsl:s' < l[a].kids.length
 rotate_left
 ·rw [if_pos (Or.inl (by omega))]
  have j3:decide ((l[a].kids.length:Int)≤(s':Int)) = true:=by rw [decide_eq_true_eq];omega
  have j4:l[a].kids.length≤s':=by omega
  generalize l[a] = item at *
  obtain ⟨ik,ix,ic,is⟩:=item
  simp only [Tree.kind,Tree.text,Tree.cols,Tree.kids] at *
  clear hnr hb r0 r1 r2 hnd htm hs0 hs1 hke hs2 htl hrd0 hls0 hrd1 hls1 b1 b2 b3 b4 b5 hok0 ht0v t00 t01 t02 t03 hrdl hlsl hrdi hlsi t0_ t1_ t2_ t3_ e1 e2 e3 e4 e5 hIv hgd hsl
  go_enter Tryz.func79,Tryz.ntmps79
  go_upto_region 22 with fail
  obtain ⟨X,hX⟩:∃ X,W0.alloc (Obj.cells #[.int .i64 ik,.string ix,.int .i64 ic,.slice A1 is.length c1] 24) = X:=⟨_,rfl⟩
  rw [hX]
  obtain ⟨⟨y0,y1,y2,y3⟩,hbX⟩:=KW.out ik ix ic (.slice A1 is.length c1) X (by rw [hX];exact Below.refl _ _)
  obtain ⟨⟨m0,m1,m2,m3,m4,m5,m6,m7⟩,hbw⟩:=KB.out X hbX
  have HKX:=hid hbw
  clear hbX hbw hX x0 x1 x2 x3
  go_wp2_with fail
  go_quiet (fail)
  go_wp2_with fail
  refine bodyPost_ret (v:=.tuple #[.slice none 0 0,.int .i64 7]) (by simp [results,Tryz.results79,go_sem]) rfl ?_
  exact ⟨_,rfl,zAa.nil_ 0 (Nat.zero_le _) none,zFn HKX.out⟩
 have hkid:kidS l[a] (s':Int) = l[a].kids[s']:=by unfold kidS;rw [Int.toNat_natCast,List.getD_eq_getElem?_getD,List.getElem?_eq_getElem hsl];rfl
 rw [hkid]
 obtain ⟨gk,ok,A2,c2,rs2,rfl,hgk,d0,d1,d2,d3,f1,f2,f3,f4,f5,hrd2,hls2⟩:=zAy hrdi hlsi hsl
 have hKv:zAa zAb w S l[a].kids[s'].kids (.slice A2 l[a].kids[s'].kids.length c2):=⟨_,_,rs2,rfl,f4,f5,hrd2,hls2⟩
 have hglk:gk < w.heap.size:=HSS.out _ hgk
 have KK:Hid (∀ W,Below w.heap.size w W→W.cell? ⟨gk,ok + s' * 4 + 3,none⟩ = some (.slice A2 l[a].kids[s'].kids.length c2)):=fun W hW=>(hW.cell (p:=⟨gk,_,none⟩) hglk).trans d3
 have j3:decide ((l[a].kids.length:Int)≤(s':Int)) = false:=by rw [decide_eq_false_iff_not];omega
 have j4:(s':Int) < (l[a].kids.length:Int):=by omega
 have j5:¬ l[a].kids.length≤s':=by omega
 have hm2:l[a].kids[s'].kids.length≤1000000:=by
  have h1:=zAn l[a].kids[s']
  have h2:=zBa hsl
  have h3:=zAo l[a].kids (s' + 1)
  have h4:zAe l[a] = 1 + zAd l[a].kids:=by cases l[a];rfl
  have h5:=zBa hai
  have h6:=zAo l (a + 1)
  omega
 by_cases hnn:(l[a].kids[s'].kids.length:Int) = n
 rotate_left
 ·rw [if_pos (Or.inr (Or.inl hnn))]
  have j6:((l[a].kids[s'].kids.length:Int) == n) = false:=by simpa using hnn
  have j7:((l[a].kids[s'].kids.length:Int) != n) = true:=by simpa using hnn
  generalize l[a].kids[s'].kids.length = m2 at *
  generalize l[a] = item at *
  obtain ⟨ik,ix,ic,is⟩:=item
  simp only [Tree.kind,Tree.text,Tree.cols,Tree.kids] at *
  clear hnr hb r0 r1 r2 hnd htm hs0 hs1 hke hs2 htl hrd0 hls0 hrd1 hls1 b1 b2 b3 b4 b5 hok0 ht0v t00 t01 t02 t03 hrdl hlsl hrdi hlsi t0_ t1_ t2_ t3_ e1 e2 e3 e4 e5 hIv hgd d0 d1 d2 d3 f1 f2 f3 f4 f5 hrd2 hls2 hKv hkid hnn
  go_enter Tryz.func79,Tryz.ntmps79
  go_upto_region 22 with fail
  obtain ⟨X,hX⟩:∃ X,W0.alloc (Obj.cells #[.int .i64 ik,.string ix,.int .i64 ic,.slice (some ⟨gk,ok,none⟩) is.length c1] 24) = X:=⟨_,rfl⟩
  rw [hX]
  obtain ⟨⟨y0,y1,y2,y3⟩,hbX⟩:=KW.out ik ix ic (.slice (some ⟨gk,ok,none⟩) is.length c1) X (by rw [hX];exact Below.refl _ _)
  obtain ⟨⟨m0,m1,m2,m3,m4,m5,m6,m7⟩,hbw⟩:=KB.out X hbX
  have d3:=KK.out X hbw
  have HKX:=hid hbw
  clear hbX hbw hX x0 x1 x2 x3
  go_wp2_with fail
  go_quiet (fail)
  go_wp2_with fail
  refine bodyPost_ret (v:=.tuple #[.slice none 0 0,.int .i64 7]) (by simp [results,Tryz.results79,go_sem]) rfl ?_
  exact ⟨_,rfl,zAa.nil_ 0 (Nat.zero_le _) none,zFn HKX.out⟩
 have hbb:b = a + 1:=by omega
 have CF:Hid (∀ W,Below w.heap.size w W→Calls Tryz.prog 115 #[.agg #[.int .i64 t0.kind,.string t0.text,.int .i64 t0.cols,.slice A0 t0.kids.length c0],.int .i64 s',.slice A2 l[a].kids[s'].kids.length c2] W (zEa S W (zAr t0 s' l[a].kids[s'].kids))):=fun W hW =>
  zJr t0 s' l[a].kids[s'].kids A0 A2 c0 c2 W S (fun q hq=>Nat.lt_of_lt_of_le (HSS.out q hq) hW.size) hs2 htl hm2 (zBg ht0v HSS.out hW) (zBg hKv HSS.out hW)
 have CE:Hid (∀ W v,Below w.heap.size w W→zAa zAb W (Lt W.heap.size) (zAr t0 s' l[a].kids[s'].kids).kids v→Calls Tryz.prog 22 #[.agg #[.int .i64 l[a].kind,.string l[a].text,.int .i64 l[a].cols,.slice (some ⟨gk,ok,none⟩) l[a].kids.length c1],.agg #[.int .i64 (zAr t0 s' l[a].kids[s'].kids).kind,.string (zAr t0 s' l[a].kids[s'].kids).text,.int .i64 (zAr t0 s' l[a].kids[s'].kids).cols,v]] W fun e w'=>e = .returned (.bool (eqS l[a] (zAr t0 s' l[a].kids[s'].kids)))∧Below W.heap.size W w'):=fun W v hW hv =>
  zLz l[a] (zAr t0 s' l[a].kids[s'].kids) W _ v (zFl hIv HSS.out hW) hv
 have CS:Hid (∀ W,Below w.heap.size w W→Calls Tryz.prog 114 #[.slice (some ⟨g,o,none⟩) l.length cap,.int .i64 (a:Int),.int .i64 ((a:Int) + 1),.slice A2 l[a].kids[s'].kids.length c2] W (zEb S W (zAv l a b l[a].kids[s'].kids))):=fun W hW =>
  zEk l l[a].kids[s'].kids (a:Int) ((a:Int) + 1) a b (some ⟨g,o,none⟩) A2 cap c2 W S (fun q hq=>Nat.lt_of_lt_of_le (HSS.out q hq) hW.size) rfl (by omega) (by omega) (by omega) hll hm2 (zBg HL.out HSS.out hW) (zBg hKv HSS.out hW)
 have hif:(if l[a].kids.length≤(s':Int)∨(l[a].kids[s'].kids.length:Int)≠n∨eqS l[a] (zAr t0 s' l[a].kids[s'].kids) = false then (([],7):List Tree × Int) else (zAv l a b l[a].kids[s'].kids,0)) = if eqS l[a] (zAr t0 s' l[a].kids[s'].kids) = false then ([],7) else (zAv l a b l[a].kids[s'].kids,0):=by
  by_cases hq:eqS l[a] (zAr t0 s' l[a].kids[s'].kids) = false
  ·rw [if_pos (Or.inr (Or.inr hq)),if_pos hq]
  ·rw [if_neg hq,if_neg]
   rintro (h | h | h)
   ·omega
   ·exact h hnn
   ·exact hq h
 rw [hif]
 have j6:((l[a].kids[s'].kids.length:Int) == n) = true:=by simpa using hnn
 have j7:((l[a].kids[s'].kids.length:Int) != n) = false:=by simpa using hnn
 obtain ⟨q0,q1,q2,q3⟩:=KN.out W0 HB0.out
 generalize eqS l[a] (zAr t0 s' l[a].kids[s'].kids) = bS at *
 generalize zAr t0 s' l[a].kids[s'].kids = R at *
 generalize zAv l a b l[a].kids[s'].kids = L at *
 generalize l[a].kids[s'].kids.length = n2 at *
 generalize l[a] = item at *
 obtain ⟨ik,ix,ic,is⟩:=item
 obtain ⟨tk,tx,tc,ts⟩:=t0
 obtain ⟨rk,rx,rc,rs⟩:=R
 simp only [Tree.kind,Tree.text,Tree.cols,Tree.kids] at *
 clear hnr hb r0 r1 r2 hnd htm hs0 hs1 hke hs2 htl hrd0 hls0 hrd1 hls1 b1 b2 b3 b4 b5 hok0 ht0v t00 t01 t02 t03 hrdl hlsl hrdi hlsi t0_ t1_ t2_ t3_ e1 e2 e3 e4 e5 hIv hgd d0 d1 d2 d3 f1 f2 f3 f4 f5 hrd2 hls2 hKv hkid hnn hif hm2
 cases bS
 all_goals
  go_enter Tryz.func79,Tryz.ntmps79
  go_upto_region 22 with fail
  obtain ⟨X,hX⟩:∃ X,W0.alloc (Obj.cells #[.int .i64 ik,.string ix,.int .i64 ic,.slice (some ⟨gk,ok,none⟩) is.length c1] 24) = X:=⟨_,rfl⟩
  rw [hX]
  obtain ⟨⟨y0,y1,y2,y3⟩,hbX⟩:=KW.out ik ix ic (.slice (some ⟨gk,ok,none⟩) is.length c1) X (by rw [hX];exact Below.refl _ _)
  obtain ⟨⟨m0,m1,m2,m3,m4,m5,m6,m7⟩,hbw⟩:=KB.out X hbX
  have d3:=KK.out X hbw
  obtain ⟨q0,q1,q2,q3⟩:=KN.out X hbw
  have HKX:=hid hbw
  have KX:Hid (∀ W,Below X.heap.size X W→Box4 W W0.heap.size ik ix ic (.slice (some ⟨gk,ok,none⟩) is.length c1)∧Below W0.heap.size W0 W):=fun W hW=>KW.out ik ix ic _ W (by rw [hX];exact hW)
  clear hbX hbw hX x0 x1 x2 x3
  go_wp2_with fail
  go_region_held3 (fun w'=>(w'.cell? ⟨w.heap.size,3,none⟩ = some (.int .i64 n)∧w'.cell? ⟨w.heap.size,4,none⟩ = some (.slice (some ⟨g0,o0,none⟩) 1 cn)∧w'.cell? ⟨w.heap.size,5,none⟩ = some (.int .i64 (s':Int)))∧(w'.cell? ⟨g0,o0,none⟩ = some (.int .i64 tk)∧w'.cell? ⟨g0,o0 + 1,none⟩ = some (.string tx)∧w'.cell? ⟨g0,o0 + 2,none⟩ = some (.int .i64 tc)∧w'.cell? ⟨g0,o0 + 3,none⟩ = some (.slice A0 ts.length c0)) ∧
    (w'.cell? ⟨W0.heap.size,0,none⟩ = some (.int .i64 ik)∧w'.cell? ⟨W0.heap.size,1,none⟩ = some (.string ix)∧w'.cell? ⟨W0.heap.size,2,none⟩ = some (.int .i64 ic)∧w'.cell? ⟨W0.heap.size,3,none⟩ = some (.slice (some ⟨gk,ok,none⟩) is.length c1))∧w'.cell? ⟨gk,ok + s' * 4 + 3,none⟩ = some (.slice A2 n2 c2)) (go_keep) (first
   | (go_at_call 115;refine (CF.out _ (zC2 HKX.out)).mono ?_;intro e w5 h5;obtain ⟨v5,rfl,hr5,hb5⟩:∃ v,e = .returned (.agg #[.int .i64 rk,.string rx,.int .i64 rc,v])∧zAa zAb w5 (NS S X.heap.size w5) rs v∧Below X.heap.size X w5:=by { obtain ⟨v,e1,e2,e3⟩:=zEa.ns h5 (b:=X.heap.size) (Nat.le_refl _);exact ⟨v,e1,e2,zC7 e3⟩ };obtain ⟨A5,c5,rfl⟩:=hr5.form;have HB5:=hid hb5;have HK5:=hid (zAq HKX.out hb5);have HR5:=hid (nsLt hr5 HSS.out HK5.out.size);clear hr5 hb5;obtain ⟨⟨y0,y1,y2,y3⟩,hbY⟩:=KX.out w5 HB5.out;obtain ⟨⟨k0,k1,k2,k3,k4,k5,k6,k7⟩,hbw⟩:=KB.out w5 hbY;have d3:=KK.out w5 hbw;obtain ⟨q0,q1,q2,q3⟩:=KN.out w5 hbw;clear hbw hbY)
   | (go_at_call 22;refine (CE.out _ _ HK5.out HR5.out).mono ?_;rintro e w6 ⟨rfl,hb6⟩;have HB6:=hid (zAq HB5.out hb6);have HK6:=hid (zAq HK5.out hb6);clear hb6;obtain ⟨⟨y0,y1,y2,y3⟩,hbY⟩:=KX.out w6 HB6.out;obtain ⟨⟨k0,k1,k2,k3,k4,k5,k6,k7⟩,hbw⟩:=KB.out w6 hbY;have d3:=KK.out w6 hbw;obtain ⟨q0,q1,q2,q3⟩:=KN.out w6 hbw;clear hbw hbY))
  go_wp2_with fail
 ·refine bodyPost_ret (v:=.tuple #[.slice none 0 0,.int .i64 7]) (by simp [results,Tryz.results79,go_sem]) rfl ?_
  exact ⟨_,rfl,zAa.nil_ 0 (Nat.zero_le _) none,HK6.out⟩
 ·go_region_held3 (fun w'=>(w'.cell? ⟨w.heap.size,2,none⟩ = some (.int .i64 (a:Int))∧w'.cell? ⟨w.heap.size,5,none⟩ = some (.int .i64 (s':Int)))∧w'.cell? ⟨W0.heap.size,3,none⟩ = some (.slice (some ⟨gk,ok,none⟩) is.length c1)∧w'.cell? ⟨gk,ok + s' * 4 + 3,none⟩ = some (.slice A2 n2 c2)) (go_keep) (first
   | (go_at_call 114;refine (CS.out _ (zC2 HK6.out)).mono ?_;rintro e w7 ⟨v7,rfl,hr7,hb7⟩;have HR7:=hid hr7;have HK7:=hid (zAq HK6.out (zC7 hb7));clear hr7;obtain ⟨⟨y0,y1,y2,y3⟩,hbY⟩:=KX.out w7 (zAq HB6.out (zC7 hb7));obtain ⟨⟨k0,k1,k2,k3,k4,k5,k6,k7⟩,hbw⟩:=KB.out w7 hbY;have d3:=KK.out w7 hbw;clear hbw hbY hb7))
  go_wp2_with fail
  refine bodyPost_ret (v:=.tuple #[v7,.int .i64 0]) (by simp [results,Tryz.results79,go_sem]) rfl ?_
  exact ⟨v7,rfl,HR7.out.keep (fun _ _=>rfl) (fun q hq=>by rcases hq with hq | hq;exact .inl hq;exact .inr ⟨Nat.le_trans HK6.out.size hq.1,hq.2⟩),HK7.out⟩
end Go.Proofs.YtbjcioknfjofkaaGreat
