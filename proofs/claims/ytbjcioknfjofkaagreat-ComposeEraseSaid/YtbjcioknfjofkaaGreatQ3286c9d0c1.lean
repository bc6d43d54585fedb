/- Texts put together. -/
import Derived.Test.YtbjcioknfjofkaaGreatQ8c13868fc1
set_option linter.unusedVariables false
set_option linter.unusedSimpArgs false
set_option maxRecDepth 100000
namespace Go.Proofs.YtbjcioknfjofkaaGreat
open Go.RowKit
set_option maxHeartbeats 8000000 in
theorem chg_del (l:List Tree) (row:List Int) (at_ n slot:Int) (nodes:List Tree) (old text:ByteArray) (A Ar An:Option Addr) (cap lr cr cn:Nat) (w:World) (S:Nat→Prop) (hS:∀ q,S q→q < w.heap.size) (hl:zAa zAb w S l (.slice A l.length cap)) (hn:zAa zAb w S nodes (.slice An nodes.length cn)) (hat:In64 at_) (hcl:zAd l≤1000000) (hcn:zAd nodes≤1000000) :
  Calls Tryz.prog 79 #[.slice A l.length cap,.agg (opC ⟨2,row,at_,n,nodes,slot,old,text⟩ (.slice Ar lr cr) (.slice An nodes.length cn))] w (zCa S w (zAi l ⟨2,row,at_,n,nodes,slot,old,text⟩)):=by
 have hll:l.length≤1000000:=by have:=zBf l;omega
 have hln:nodes.length≤1000000:=by have:=zBf nodes;omega
 have hnd:zCv ⟨2,row,at_,n,nodes,slot,old,text⟩ = (nodes.length:Int):=by simp [zCv]
 have HSS:=hid hS
 generalize hW0:w.alloc (.cells (opC ⟨2,row,at_,n,nodes,slot,old,text⟩ (.slice Ar lr cr) (.slice An nodes.length cn)) 67) = W0
 have hz0:W0.heap.size = w.heap.size + 1:=by rw [← hW0];simp
 have KB:Hid (∀ W,Below W0.heap.size W0 W→zDa W w.heap.size ⟨2,row,at_,n,nodes,slot,old,text⟩ (.slice Ar lr cr) (.slice An nodes.length cn)∧Below w.heap.size w W):=fun W hW=>by
  have h0:zDa W0 w.heap.size ⟨2,row,at_,n,nodes,slot,old,text⟩ (.slice Ar lr cr) (.slice An nodes.length cn):=by rw [← hW0];exact zDa.new _ _ _ _ _
  have hB0:Below w.heap.size w W0:=by rw [← hW0];exact blA _ _
  exact ⟨h0.below hW (by omega),hB0.trans (hW.mono hB0.size)⟩
 obtain ⟨⟨m0,m1,m2,m3,m4,m5,m6,m7⟩,hB0⟩:=KB.out W0 (Below.refl _ _)
 have HB0:=hid hB0
 have HZ0:=hid hz0
 have HL:=hid hl
 have HN:=hid hn
 simp only [opC] at *
 clear hS hl hn hB0 hz0
 rcases Int.lt_or_le at_ 0 with r0 | r0
 ·have i0:decide (at_ < 0) = true:=by simpa using r0
  have hr:zAi l ⟨2,row,at_,n,nodes,slot,old,text⟩ = ([],2):=if_pos (by rw [hnd];simp only;omega)
  rw [hr]
  clear hr hnd
  go_enter Tryz.func79,Tryz.ntmps79
  go_wp2_with fail
  refine bodyPost_ret (v:=.tuple #[.slice none 0 0,.int .i64 2]) (by simp [results,Tryz.results79,go_sem]) rfl ?_
  exact ⟨_,rfl,zAa.nil_ 0 (Nat.zero_le _) none,HB0.out⟩
 have i0:decide (at_ < 0) = false:=by simpa using r0
 rcases Int.lt_or_le (l.length:Int) at_ with r1 | r1
 ·have i1:decide ((l.length:Int) < at_) = true:=by simpa using r1
  have hr:zAi l ⟨2,row,at_,n,nodes,slot,old,text⟩ = ([],2):=if_pos (by rw [hnd];simp only;omega)
  rw [hr]
  clear hr hnd
  go_enter Tryz.func79,Tryz.ntmps79
  go_wp2_with fail
  refine bodyPost_ret (v:=.tuple #[.slice none 0 0,.int .i64 2]) (by simp [results,Tryz.results79,go_sem]) rfl ?_
  exact ⟨_,rfl,zAa.nil_ 0 (Nat.zero_le _) none,HB0.out⟩
 have i1:decide ((l.length:Int) < at_) = false:=by simpa using r1
 have w1:IntKind.i64.wrap ((l.length:Int) - at_) = (l.length:Int) - at_:=IntWalk.i64_in _ (by omega)
 rcases Int.lt_or_le ((l.length:Int) - at_) ((nodes.length:Int)) with r2 | r2
 ·have i2:decide ((l.length:Int) - at_ < (nodes.length:Int)) = true:=by simpa using r2
  have hr:zAi l ⟨2,row,at_,n,nodes,slot,old,text⟩ = ([],2):=if_pos (by rw [hnd];simp only;omega)
  rw [hr]
  clear hr hnd
  go_enter Tryz.func79,Tryz.ntmps79
  go_wp2_with fail
  refine bodyPost_ret (v:=.tuple #[.slice none 0 0,.int .i64 2]) (by simp [results,Tryz.results79,go_sem]) rfl ?_
  exact ⟨_,rfl,zAa.nil_ 0 (Nat.zero_le _) none,HB0.out⟩
 have i2:decide ((l.length:Int) - at_ < (nodes.length:Int)) = false:=by simpa using r2
 have w2:IntKind.i64.wrap (at_ + (nodes.length:Int)) = at_ + (nodes.length:Int):=IntWalk.i64_in _ (by omega)
 have w3:IntKind.i64.wrap at_ = at_:=IntWalk.i64_in _ (by omega)
 have hnr:¬ (at_ < 0∨(l.length:Int) < at_∨(l.length:Int) - at_ < zCv ⟨2,row,at_,n,nodes,slot,old,text⟩):=by rw [hnd];omega
 obtain ⟨a,ha⟩:∃ a:Nat,at_ = a:=⟨at_.toNat,by omega⟩
 obtain ⟨b,hb⟩:∃ b:Nat,at_ + (nodes.length:Int) = b:=⟨(at_ + (nodes.length:Int)).toNat,by omega⟩
 have hn1:l.length≤cap:=by obtain ⟨_,_,_,hq,h1,_⟩:=HL.out;cases hq;exact h1
 obtain ⟨A1,hsl,hcut⟩:=zIj zAb Tryz.underlying22 zCp A l.length cap at_ (at_ + (nodes.length:Int)) a b ha hb (by omega) (by omega) hn1
 have hr:zAi l ⟨2,row,at_,n,nodes,slot,old,text⟩ = (if zJ4 ((l.take b).drop a) nodes = true then (zAv l a b [],0) else ([],7)):=by
  unfold zAi
  rw [if_neg hnr,if_neg (by simp),if_pos rfl]
  simp only [hb]
  simp only [ha,Int.toNat_natCast]
 rw [hr]
 have hlen:((l.take b).drop a).length = b - a:=by simp;omega
 have hcc:=hcut _ _ _ HL.out
 rw [← hlen] at hcc hsl
 have CE:Hid (∀ W,Below w.heap.size w W→Calls Tryz.prog 53 #[.slice A1 ((l.take b).drop a).length (cap - a),.slice An nodes.length cn] W fun e w'=>e = .returned (.bool (zJ4 ((l.take b).drop a) nodes))∧Below W.heap.size W w'):=fun W hW=>zNr _ _ W _ _ (zFl hcc HSS.out hW) (zFl HN.out HSS.out hW)
 have CS:Hid (∀ W,Below w.heap.size w W→Calls Tryz.prog 114 #[.slice A l.length cap,.int .i64 at_,.int .i64 (at_ + (nodes.length:Int)),.slice none 0 0] W (zEb S W (zAv l a b []))):=fun W hW=>zEk l [] at_ (at_ + (nodes.length:Int)) a b A none cap 0 W S (fun q hq=>Nat.lt_of_lt_of_le (HSS.out q hq) hW.size) ha hb (by omega) (by omega) hll (Nat.zero_le _) (zBg HL.out HSS.out hW) (zAa.nil_ 0 (Nat.zero_le _) none)
 generalize zJ4 ((l.take b).drop a) nodes = bS at *
 generalize zAv l a b [] = L at *
 generalize ((l.take b).drop a).length = n2 at *
 clear hnr hr hb r0 r1 r2 hnd hcut hcc hlen ha
 cases bS
 all_goals
  go_enter Tryz.func79,Tryz.ntmps79
  go_wp2_with fail
  go_region_held3 (fun w'=>w'.cell? ⟨w.heap.size,2,none⟩ = some (.int .i64 at_)∧w'.cell? ⟨w.heap.size,4,none⟩ = some (.slice An nodes.length cn)) (go_keep) (first
   | (go_at_call 53;refine (CE.out _ (zC2 HB0.out)).mono ?_;rintro e w5 ⟨rfl,hb5⟩;have HB5:=hid (zC7 hb5);clear hb5;obtain ⟨⟨k0,k1,k2,k3,k4,k5,k6,k7⟩,hbw⟩:=KB.out w5 HB5.out;have HK5:=hid hbw;clear hbw))
  go_wp2_with fail
 ·refine bodyPost_ret (v:=.tuple #[.slice none 0 0,.int .i64 7]) (by simp [results,Tryz.results79,go_sem]) rfl ?_
  exact ⟨_,rfl,zAa.nil_ 0 (Nat.zero_le _) none,HK5.out⟩
 ·refine (CS.out _ HK5.out).mono ?_
  rintro e w6 ⟨v6,rfl,hr6,hb6⟩
  have HR6:=hid hr6
  have HB6:=hid hb6
  clear hr6 hb6
  go_wp2_with fail
  refine bodyPost_ret (v:=.tuple #[v6,.int .i64 0]) (by simp [results,Tryz.results79,go_sem]) rfl ?_
  exact ⟨v6,rfl,HR6.out.keep (fun _ _=>rfl) (fun q hq=>by rcases hq with hq | hq;exact .inl hq;exact .inr ⟨Nat.le_trans HK5.out.size hq.1,hq.2⟩),zAq HK5.out HB6.out⟩
end Go.Proofs.YtbjcioknfjofkaaGreat
