/- Texts put together. -/
import Derived.Test.YthpngeboknmllaaQ86ac3e52b5
import Derived.Test.YthpngeboknmllaaQ2bb3fbb373
set_option linter.unusedVariables false
set_option linter.unusedSimpArgs false
set_option maxRecDepth 100000
namespace Go.Proofs.Ythpngeboknmllaa
open Go.RowKit
def fewA (l:List Tree):Bool:=(l.all fun t=>fewS t 300) && decide (l.length≤8)
def fewM (l:List MacD):Bool:=(l.all fun m=>decide (m.name.size≤40) && fewS m.tree 100) && decide (l.length≤70)
theorem all_step {α:Type} (f:α→Bool) (l:List α) (k:Nat) (h:k < l.length) (h1:(l.take k).all f = true) (h2:f l[k] = true):(l.take (k + 1)).all f = true:=by
 rw [List.take_succ_eq_append_getElem h,List.all_append,h1]
 simp [h2]
theorem all_no {α:Type} (f:α→Bool) (l:List α) (k:Nat) (h:k < l.length) (h2:f l[k] = false):l.all f = false:=by
 rw [Bool.eq_false_iff]
 intro h1
 have:=List.all_eq_true.1 h1 _ (List.getElem_mem h)
 rw [h2] at this;cases this
set_option maxHeartbeats 4000000 in
theorem rfew19_any (l:List Tree) (A:Option Addr) (cap:Nat) (w:World) (hv:SliceR treeE w (Lt w.heap.size) l (.slice A l.length cap)) :
  Calls Try.prog 6 #[.slice A l.length cap] w (BoolP w (fewA l)):=by
 have HV:=hid hv
 have hlen:l.length≤9223372036854775807:=by
  obtain ⟨_,_,_,hq,h1,h2,_,_⟩:=hv
  cases hq
  unfold maxLen at h2;omega
 have HS:Hid (fewA l = ((l.all fun t=>fewS t 300) && decide (l.length≤8))):=by show _ = _;rfl
 generalize fewA l = RES at *
 clear hv
 go_enter Try.func6,Try.ntmps6
 go_wp2_with fail
 go_loopw [3] (fun i wr=>Below w.heap.size w wr∧∃ k:Nat,k≤l.length∧i = .int .i64 k∧((l.take k).all fun t=>fewS t 300) = true) (fun i _=>l.length - (intOf i).toNat)
 case atStart=>exact ⟨Below.refl _ _,0,Nat.zero_le _,rfl,by simp⟩
 case round =>
 obtain ⟨hbr,k,hk,rfl,hall⟩:=hrel
 have HBR:=hid hbr
 have HAL:=hid hall
 clear hall hbr
 by_cases hlt:k < l.length
 ·have i0:(k:Int) < (l.length:Int):=by omega
  have i00:(0:Int)≤(k:Int):=by omega
  obtain ⟨_,_,rs,hq,_,_,hrd,hls⟩:=HV.out.below HBR.out HBR.out.size
  cases hq
  obtain ⟨g2,o2,A2,c2,rs2,rfl,hg2,e0,e1,e2,e3,h64,h64',hts,q5,q6,hrd2,hls2⟩:=trees_at hrd hls hlt
  have CF:=hid (few_any l[k] wr (.slice A2 l[k].kids.length c2) 300 ⟨_,_,rs2,rfl,q5,q6,hrd2,hls2⟩ (by omega) (by omega))
  have HY:=hid (all_step (fun t=>fewS t 300) l k hlt HAL.out)
  have HNO:=hid (all_no (fun t=>fewS t 300) l k hlt)
  clear hrd hls hrd2 hls2 q5 q6 h64 h64' hts
  generalize l[k] = x at *
  generalize fewS x 300 = bx at *
  cases bx
  ·go_wp2_with (first
    | (go_at_call 13;refine Calls.mono CF.out ?_;rintro e w3 ⟨rfl,hb3⟩;have HB3:=hid (HBR.out.trans (hb3.mono HBR.out.size));clear hb3)
    | fail)
   go_ret
   exact ⟨by rw [HS.out,HNO.out (by trivial)];first | rfl | (simp;done),HB3.out⟩
  ·go_wp2_with (first
    | (go_at_call 13;refine Calls.mono CF.out ?_;rintro e w3 ⟨rfl,hb3⟩;have HB3:=hid (HBR.out.trans (hb3.mono HBR.out.size));clear hb3)
    | fail)
   go_roundw
   case rel=>exact ⟨HB3.out,k + 1,by omega,by go_num,HY.out (by trivial)⟩
   case measure=>simp [intOf];omega
 ·have i0:¬ (k:Int) < (l.length:Int):=by omega
  have HT:l.take k = l:=List.take_of_length_le (by omega)
  rw [HT] at HAL
  clear HT
  go_wp2_with fail
  go_ret
  exact ⟨by rw [HS.out,HAL.out];first | rfl | (simp;done) | (simp;omega),HBR.out⟩
set_option maxHeartbeats 4000000 in
theorem lfew19_any (l:List MacD) (A:Option Addr) (cap:Nat) (w:World) (hv:SliceR macE w (Lt w.heap.size) l (.slice A l.length cap)) :
  Calls Try.prog 5 #[.slice A l.length cap] w (BoolP w (fewM l)):=by
 have HV:=hid hv
 have hlen:l.length≤9223372036854775807:=by
  obtain ⟨_,_,_,hq,h1,h2,_,_⟩:=hv
  cases hq
  unfold maxLen at h2;omega
 have HS:Hid (fewM l = ((l.all fun m=>decide (m.name.size≤40) && fewS m.tree 100) && decide (l.length≤70))):=by show _ = _;rfl
 generalize fewM l = RES at *
 clear hv
 go_enter Try.func5,Try.ntmps5
 go_wp2_with fail
 go_loopw [7] (fun i wr=>Below w.heap.size w wr∧∃ k:Nat,k≤l.length∧i = .int .i64 k∧((l.take k).all fun m=>decide (m.name.size≤40) && fewS m.tree 100) = true) (fun i _=>l.length - (intOf i).toNat)
 case atStart=>exact ⟨Below.refl _ _,0,Nat.zero_le _,rfl,by simp⟩
 case round =>
 obtain ⟨hbr,k,hk,rfl,hall⟩:=hrel
 have HBR:=hid hbr
 have HAL:=hid hall
 clear hall hbr
 by_cases hlt:k < l.length
 ·have i0:(k:Int) < (l.length:Int):=by omega
  have i00:(0:Int)≤(k:Int):=by omega
  obtain ⟨_,_,rs,hq,_,_,hrd,hls⟩:=HV.out.below HBR.out HBR.out.size
  cases hq
  obtain ⟨g2,o2,A2,c2,rfl,hg2,e0,e1,e2,e3,e4,e5,hn,hp,hok,hkv⟩:=mac_at hrd hls hlt
  have HKV:=hid hkv
  have HY:=hid (all_step (fun m=>decide (m.name.size≤40) && fewS m.tree 100) l k hlt HAL.out)
  have HNO:=hid (all_no (fun m=>decide (m.name.size≤40) && fewS m.tree 100) l k hlt)
  clear hrd hls hkv hp hok
  generalize l[k] = x at *
  unfold maxLen at hn
  go_upto_region 4 with (first
   | (refine sR 33 4 10 (HasObj.at0 _ _) ?_)
   | fail)
  generalize hX:World.setRow _ _ _ = X
  have hbx:=putB hX
  have hox:=put0 hX
  have HBX:=hid (HBR.out.trans (hbx.mono HBR.out.size))
  have CF:=hid (few_any x.tree X (.slice A2 x.tree.kids.length c2) 100 (HKV.out.below hbx hbx.size) (by omega) (by omega))
  have k0:=hox.cell 0
  have k2:=hox.cell 2
  have k3:=hox.cell 3
  have k4:=hox.cell 4
  have k5:=hox.cell 5
  simp only [List.getElem?_toArray,List.getElem?_cons_zero,List.getElem?_cons_succ] at k0 k2 k3 k4 k5
  clear hX hbx hox e0 e1 e2 e3 e4 e5
  by_cases h40:x.name.size≤40
  rotate_left
  ·have d1:decide ((40:Int) < (x.name.size:Int)) = true:=by simp;omega
   have d1':decide (40 < x.name.size) = true:=by simp;omega
   have HN:=hid (HNO.out (by simp only [decide_eq_false h40,Bool.false_and]))
   clear h40
   go_wp2_with fail
   go_ret
   exact ⟨by rw [HS.out,HN.out];first | rfl | (simp;done),HBX.out⟩
  have d1:decide ((40:Int) < (x.name.size:Int)) = false:=by simp;omega
  have d1':decide (40 < x.name.size) = false:=by simp;omega
  have d2:decide (x.name.size≤40) = true:=by simpa using h40
  rw [d2] at HY HNO
  clear h40 d2
  generalize fewS x.tree 100 = bx at *
  cases bx
  ·go_wp2_with (first
    | (go_at_call 13;refine Calls.mono CF.out ?_;rintro e w3 ⟨rfl,hb3⟩;have HB3:=hid (HBX.out.trans (hb3.mono HBX.out.size));clear hb3)
    | fail)
   go_ret
   exact ⟨by rw [HS.out,HNO.out (by trivial)];first | rfl | (simp;done),HB3.out⟩
  ·go_wp2_with (first
    | (go_at_call 13;refine Calls.mono CF.out ?_;rintro e w3 ⟨rfl,hb3⟩;have HB3:=hid (HBX.out.trans (hb3.mono HBX.out.size));clear hb3)
    | fail)
   go_roundw
   case rel=>exact ⟨HB3.out,k + 1,by omega,by go_num,HY.out (by trivial)⟩
   case measure=>simp [intOf];omega
 ·have i0:¬ (k:Int) < (l.length:Int):=by omega
  have HT:l.take k = l:=List.take_of_length_le (by omega)
  rw [HT] at HAL
  clear HT
  go_wp2_with fail
  go_ret
  exact ⟨by rw [HS.out,HAL.out];first | rfl | (simp;done) | (simp;omega),HBR.out⟩
end Go.Proofs.Ythpngeboknmllaa
