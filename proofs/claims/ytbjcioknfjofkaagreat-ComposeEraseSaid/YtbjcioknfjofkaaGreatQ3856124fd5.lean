/- Texts put together. -/
import Derived.Test.YtbjcioknfjofkaaGreatQ8c13868fc1
set_option linter.unusedVariables false
set_option linter.unusedSimpArgs false
set_option maxRecDepth 100000
namespace Go.Proofs.YtbjcioknfjofkaaGreat
open Go.RowKit
set_option maxHeartbeats 8000000 in
theorem chg_wrap (l:List Tree) (row:List Int) (at_ n slot:Int) (nodes:List Tree) (old text:ByteArray) (A Ar An:Option Addr) (cap lr cr cn:Nat) (w:World) (S:Nat→Prop) (hS:∀ q,S q→q < w.heap.size) (hl:zAa zAb w S l (.slice A l.length cap)) (hn:zAa zAb w S nodes (.slice An nodes.length cn)) (hat:In64 at_) (hcl:zAd l≤1000000) (hcn:zAd nodes≤1000000) (hn0:0≤n) (hn64:In64 n) (htm:zA9 nodes slot = true) :
  Calls Tryz.prog 79 #[.slice A l.length cap,.agg (opC ⟨3,row,at_,n,nodes,slot,old,text⟩ (.slice Ar lr cr) (.slice An nodes.length cn))] w (zCa S w (zAi l ⟨3,row,at_,n,nodes,slot,old,text⟩)):=by
 have hll:l.length≤1000000:=by have:=zBf l;omega
 have hln:nodes.length≤1000000:=by have:=zBf nodes;omega
 have hnd:zCv ⟨3,row,at_,n,nodes,slot,old,text⟩ = n:=by simp [zCv]
 have HSS:=hid hS
 generalize hW0:w.alloc (.cells (opC ⟨3,row,at_,n,nodes,slot,old,text⟩ (.slice Ar lr cr) (.slice An nodes.length cn)) 67) = W0
 have hz0:W0.heap.size = w.heap.size + 1:=by rw [← hW0];simp
 have KB:Hid (∀ W,Below W0.heap.size W0 W→zDa W w.heap.size ⟨3,row,at_,n,nodes,slot,old,text⟩ (.slice Ar lr cr) (.slice An nodes.length cn)∧Below w.heap.size w W):=fun W hW=>by
  have h0:zDa W0 w.heap.size ⟨3,row,at_,n,nodes,slot,old,text⟩ (.slice Ar lr cr) (.slice An nodes.length cn):=by rw [← hW0];exact zDa.new _ _ _ _ _
  have hB0:Below w.heap.size w W0:=by rw [← hW0];exact blA _ _
  exact ⟨h0.below hW (by omega),hB0.trans (hW.mono hB0.size)⟩
 obtain ⟨⟨m0,m1,m2,m3,m4,m5,m6,m7⟩,hB0⟩:=KB.out W0 (Below.refl _ _)
 have HB0:=hid hB0
 have HZ0:=hid hz0
 have HL:=hid hl
 have HN:=hid hn
 simp only [opC] at *
 clear hS hl hn hB0 hz0
 rcases Int.lt_or_le at_ 0 with r0 | r0
 ·have i0:decide (at_ < 0) = true:=by simpa using r0
  have hr:zAi l ⟨3,row,at_,n,nodes,slot,old,text⟩ = ([],2):=if_pos (by rw [hnd];simp only;omega)
  rw [hr]
  clear hr hnd
  go_enter Tryz.func79,Tryz.ntmps79
  go_wp2_with fail
  refine bodyPost_ret (v:=.tuple #[.slice none 0 0,.int .i64 2]) (by simp [results,Tryz.results79,go_sem]) rfl ?_
  exact ⟨_,rfl,zAa.nil_ 0 (Nat.zero_le _) none,HB0.out⟩
 have i0:decide (at_ < 0) = false:=by simpa using r0
 rcases Int.lt_or_le (l.length:Int) at_ with r1 | r1
 ·have i1:decide ((l.length:Int) < at_) = true:=by simpa using r1
  have hr:zAi l ⟨3,row,at_,n,nodes,slot,old,text⟩ = ([],2):=if_pos (by rw [hnd];simp only;omega)
  rw [hr]
  clear hr hnd
  go_enter Tryz.func79,Tryz.ntmps79
  go_wp2_with fail
  refine bodyPost_ret (v:=.tuple #[.slice none 0 0,.int .i64 2]) (by simp [results,Tryz.results79,go_sem]) rfl ?_
  exact ⟨_,rfl,zAa.nil_ 0 (Nat.zero_le _) none,HB0.out⟩
 have i1:decide ((l.length:Int) < at_) = false:=by simpa using r1
 have w1:IntKind.i64.wrap ((l.length:Int) - at_) = (l.length:Int) - at_:=IntWalk.i64_in _ (by omega)
 rcases Int.lt_or_le ((l.length:Int) - at_) (n) with r2 | r2
 ·have i2:decide ((l.length:Int) - at_ < n) = true:=by simpa using r2
  have hr:zAi l ⟨3,row,at_,n,nodes,slot,old,text⟩ = ([],2):=if_pos (by rw [hnd];simp only;omega)
  rw [hr]
  clear hr hnd
  go_enter Tryz.func79,Tryz.ntmps79
  go_wp2_with fail
  refine bodyPost_ret (v:=.tuple #[.slice none 0 0,.int .i64 2]) (by simp [results,Tryz.results79,go_sem]) rfl ?_
  exact ⟨_,rfl,zAa.nil_ 0 (Nat.zero_le _) none,HB0.out⟩
 have i2:decide ((l.length:Int) - at_ < n) = false:=by simpa using r2
 have w2:IntKind.i64.wrap (at_ + n) = at_ + n:=IntWalk.i64_in _ (by omega)
 have w3:IntKind.i64.wrap at_ = at_:=IntWalk.i64_in _ (by omega)
 have hnr:¬ (at_ < 0∨(l.length:Int) < at_∨(l.length:Int) - at_ < zCv ⟨3,row,at_,n,nodes,slot,old,text⟩):=by rw [hnd];omega
 obtain ⟨a,ha⟩:∃ a:Nat,at_ = a:=⟨at_.toNat,by omega⟩
 obtain ⟨b,hb⟩:∃ b:Nat,at_ + n = b:=⟨(at_ + n).toNat,by omega⟩
 have hn1:l.length≤cap:=by obtain ⟨_,_,_,hq,h1,_⟩:=HL.out;cases hq;exact h1
 obtain ⟨A1,hsl,hcut⟩:=zIj zAb Tryz.underlying22 zCp A l.length cap at_ (at_ + n) a b ha hb (by omega) (by omega) hn1
 obtain ⟨t0,hnd1,hs0,hs1,hke⟩:=zE4 htm
 subst hnd1
 have hn0':=HN.out
 obtain ⟨_,_,rs0,hq,_,_,hrd0,hls0⟩:=hn0'
 cases hq
 obtain ⟨g0,o0,A0,c0,rs1,rfl,hg0,t00,t01,t02,t03,b1,b2,b3,b4,b5,hrd1,hls1⟩:=zAy hrd0 hls0 (k:=0) (by simp)
 simp only [Nat.zero_mul,Nat.add_zero,List.getElem_cons_zero,List.length_cons,List.length_nil,Nat.zero_add] at t00 t01 t02 t03 b1 b2 b3 b4 b5 hrd1 hls1 m0 m1 m2 m3 m4 m5 m6 m7 hW0
 have hok0:zAu t0:=⟨b1,b2,b3⟩
 have ht0v:zAa zAb w S t0.kids (.slice A0 t0.kids.length c0):=⟨_,_,rs1,rfl,b4,b5,hrd1,hls1⟩
 have hgl0:g0 < w.heap.size:=HSS.out _ hg0
 have KN:Hid (∀ W,Below w.heap.size w W→W.cell? ⟨g0,o0,none⟩ = some (.int .i64 t0.kind)∧W.cell? ⟨g0,o0 + 1,none⟩ = some (.string t0.text)∧W.cell? ⟨g0,o0 + 2,none⟩ = some (.int .i64 t0.cols)∧W.cell? ⟨g0,o0 + 3,none⟩ = some (.slice A0 t0.kids.length c0)):=fun W hW =>
  ⟨(hW.cell (p:=⟨g0,_,none⟩) hgl0).trans t00,(hW.cell (p:=⟨g0,_,none⟩) hgl0).trans t01,(hW.cell (p:=⟨g0,_,none⟩) hgl0).trans t02,(hW.cell (p:=⟨g0,_,none⟩) hgl0).trans t03⟩
 obtain ⟨s',hs'⟩:∃ s':Nat,slot = s':=⟨slot.toNat,by omega⟩
 have hs2:s' < t0.kids.length:=by omega
 have htl:t0.kids.length≤1000000:=by
  have h1:=zAn t0
  have h2:zAd [t0] = zAe t0 + 0:=rfl
  omega
 have hr:zAi l ⟨3,row,at_,n,[t0],slot,old,text⟩ = (zAv l a b [zAr t0 s' ((l.take b).drop a)],0):=by
  unfold zAi
  rw [if_neg hnr,if_neg (by simp),if_neg (by simp),if_pos rfl]
  simp only [hb]
  simp only [ha,hs',Int.toNat_natCast,List.headD_cons]
 rw [hr]
 have hlen:((l.take b).drop a).length = b - a:=by simp;omega
 have hcc:=hcut _ _ _ HL.out
 rw [← hlen] at hcc hsl
 have CF:Hid (∀ W,Below w.heap.size w W→Calls Tryz.prog 115 #[.agg #[.int .i64 t0.kind,.string t0.text,.int .i64 t0.cols,.slice A0 t0.kids.length c0],.int .i64 slot,.slice A1 ((l.take b).drop a).length (cap - a)] W (zEa S W (zAr t0 s' ((l.take b).drop a)))):=fun W hW=>by
  rw [hs']
  exact zJr t0 s' ((l.take b).drop a) A0 A1 c0 (cap - a) W S (fun q hq=>Nat.lt_of_lt_of_le (HSS.out q hq) hW.size) hs2 htl (by omega) (zBg ht0v HSS.out hW) (zBg hcc HSS.out hW)
 have hokR:zAu (zAr t0 s' ((l.take b).drop a)):=hok0
 have CS:Hid (∀ W b0 v,Below w.heap.size w W→w.heap.size≤b0→zAa zAb W (NS S b0 W) [zAr t0 s' ((l.take b).drop a)] v→∀ B',v = .slice B' 1 1→Calls Tryz.prog 114 #[.slice A l.length cap,.int .i64 at_,.int .i64 (at_ + n),v] W (zEb (NS S b0 W) W (zAv l a b [zAr t0 s' ((l.take b).drop a)]))):=by
  intro W b0 v hW hb0 hr B' hv
  subst hv
  exact zEk l [zAr t0 s' ((l.take b).drop a)] at_ (at_ + n) a b A B' cap 1 W (NS S b0 W) (fun q hq=>by
   have hz:=hW.size
   rcases hq with hq | hq
   ·have:=HSS.out q hq;omega
   ·exact hq.2) ha hb (by omega) (by omega) hll (by simp) ((zBg HL.out HSS.out hW).keep (fun _ _=>rfl) (fun q hq=>.inl hq)) hr
 generalize zAr t0 s' ((l.take b).drop a) = R at *
 generalize zAv l a b [R] = L at *
 generalize ((l.take b).drop a).length = n2 at *
 obtain ⟨q0,q1,q2,q3⟩:=KN.out W0 HB0.out
 obtain ⟨tk,tx,tc,ts⟩:=t0
 obtain ⟨rk,rx,rc,rs⟩:=R
 simp only [Tree.kind,Tree.text,Tree.cols,Tree.kids] at *
 have HOK:=hid hokR
 clear hnr hr hb r0 r1 r2 hnd hcut hcc hlen ha htm hs0 hs1 hke hs' hs2 htl hrd0 hls0 hrd1 hls1 b1 b2 b3 b4 b5 hok0 ht0v hokR t00 t01 t02 t03
 go_enter Tryz.func79,Tryz.ntmps79
 go_wp2_with fail
 go_region_held3 (fun w'=>w'.cell? ⟨w.heap.size,2,none⟩ = some (.int .i64 at_)∧w'.cell? ⟨w.heap.size,4,none⟩ = some (.slice (some ⟨g0,o0,none⟩) 1 cn)∧w'.cell? ⟨w.heap.size,5,none⟩ = some (.int .i64 slot)∧w'.cell? ⟨g0,o0,none⟩ = some (.int .i64 tk)∧w'.cell? ⟨g0,o0 + 1,none⟩ = some (.string tx)∧w'.cell? ⟨g0,o0 + 2,none⟩ = some (.int .i64 tc)∧w'.cell? ⟨g0,o0 + 3,none⟩ = some (.slice A0 ts.length c0)) (go_keep) (first
  | (go_at_call 115;refine (CF.out _ (zC2 HB0.out)).mono ?_;intro e w5 h5;obtain ⟨v5,rfl,hr5,hb5⟩:∃ v,e = .returned (.agg #[.int .i64 rk,.string rx,.int .i64 rc,v])∧zAa zAb w5 (NS S W0.heap.size w5) rs v∧Below W0.heap.size W0 w5:=by { obtain ⟨v,e1,e2,e3⟩:=zEa.ns h5 (b:=W0.heap.size) (Nat.le_refl _);exact ⟨v,e1,e2,zC7 e3⟩ };obtain ⟨A5,c5,rfl⟩:=hr5.form;have HR5:=hid hr5;have HB5:=hid hb5;clear hr5 hb5;obtain ⟨⟨k0,k1,k2,k3,k4,k5,k6,k7⟩,hbw⟩:=KB.out w5 HB5.out;have HK5:=hid hbw;obtain ⟨q0,q1,q2,q3⟩:=KN.out w5 hbw;clear hbw)
  | (go_at_call 114;refine (CS.out _ W0.heap.size _ (zAp HK5.out _) HB0.out.size (zEv HOK.out HR5.out (fun q hq=>Nat.lt_of_lt_of_le (HSS.out q hq) HK5.out.size) HB5.out.size (Below.refl _ _) rfl) _ rfl).mono ?_;rintro e w6 ⟨v6,rfl,hr6,hb6⟩;have HR6:=hid hr6;have HZ5:=hid (zAq (zAp HB5.out _) hb6);have HW6:=hid hb6.size;have HK6:=hid (zAq (zAp HK5.out _) hb6);clear hr6 hb6;obtain ⟨⟨k0,k1,k2,k3,k4,k5,k6,k7⟩,hbw⟩:=KB.out w6 HZ5.out;obtain ⟨q0,q1,q2,q3⟩:=KN.out w6 hbw;clear hbw))
 all_goals
  go_wp2_with fail
  refine bodyPost_ret (v:=.tuple #[v6,.int .i64 0]) (by simp [results,Tryz.results79,go_sem]) rfl ?_
  have hz0:=HB0.out.size
  have hz5:=HB5.out.size
  exact ⟨v6,rfl,HR6.out.keep (fun _ _=>rfl) (fun q hq=>by
   rcases hq with (hq | hq) | hq
   ·exact .inl hq
   ·exact .inr ⟨by omega,Nat.lt_of_lt_of_le hq.2 HW6.out⟩
   ·exact .inr ⟨by have:=hq.1;simp at this;omega,hq.2⟩),HK6.out⟩
end Go.Proofs.YtbjcioknfjofkaaGreat
