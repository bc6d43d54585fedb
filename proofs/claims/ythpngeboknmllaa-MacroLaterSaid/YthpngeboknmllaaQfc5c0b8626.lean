/- Texts put together. -/
import Derived.Test.YthpngeboknmllaaQ928cf01940
import Derived.BigGuard
import Derived.BigFrame
import Derived.RegionTactic
import Derived.Lib.IndexLaws
import Derived.Laws.Strings3
set_option linter.unusedVariables false
set_option linter.unusedSimpArgs false
set_option maxRecDepth 100000
namespace Go.Proofs.Ythpngeboknmllaa
open Go.RowKit
theorem or32:∀ n:Fin 256,letterS (n.val:Int) = decide (97≤bits BinOp.or IntKind.u8 (n.val:Int) 32∧bits BinOp.or IntKind.u8 (n.val:Int) 32≤122):=by decide +kernel
theorem or32' (b:UInt8):letterS (b.toNat:Int) = decide (97≤bits BinOp.or IntKind.u8 (b.toNat:Int) 32∧bits BinOp.or IntKind.u8 (b.toNat:Int) 32≤122):=or32 ⟨b.toNat,b.toNat_lt⟩
set_option maxHeartbeats 400000 in
theorem letters_q (s:ByteArray) (w:World) (hs:s.size≤maxLen) :
  Calls Try.prog 25 #[.string s] w fun e w'=>e = .returned (.bool ((bytes s).all letterS))∧w = w':=by
 unfold maxLen at hs
 go_enter Try.func25,Try.ntmps25
 go_wp2
 go_loop [3] (fun i=>∃ k:Nat,k≤s.size∧i = .int .i64 k∧((bytes s).drop k).all letterS = (bytes s).all letterS) (fun i=>s.size - (intOf i).toNat)
 case atStart=>exact ⟨0,Nat.zero_le _,rfl,rfl⟩
 case round =>
  obtain ⟨k,hk,rfl,hrest⟩:=hrel
  have HR:=hid hrest
  clear hrest
  by_cases hlt:k < s.size
  ·have HN:=hid (bytes_drop s k hlt)
   have HO:=hid (or32' s[k])
   by_cases h1:bits BinOp.or IntKind.u8 (s[k].toNat:Int) 32 < 97
   ·have HF:Hid ((bytes s).all letterS = false):=by show _ = _;rw [← HR.out,HN.out,List.all_cons,HO.out,decide_eq_false (by omega)];rfl
    go_wp2
    go_ret
    exact ⟨by rw [HF.out];rfl,rfl⟩
   ·have d1:decide (bits BinOp.or IntKind.u8 (s[k].toNat:Int) 32 < 97) = false:=by simpa using h1
    by_cases h2:122 < bits BinOp.or IntKind.u8 (s[k].toNat:Int) 32
    ·have HF:Hid ((bytes s).all letterS = false):=by show _ = _;rw [← HR.out,HN.out,List.all_cons,HO.out,decide_eq_false (by omega)];rfl
     go_wp2
     go_ret
     exact ⟨by rw [HF.out];rfl,rfl⟩
    ·have d2:decide (122 < bits BinOp.or IntKind.u8 (s[k].toNat:Int) 32) = false:=by simpa using h2
     have HF:Hid (((bytes s).drop (k + 1)).all letterS = (bytes s).all letterS):=by show _ = _;rw [← HR.out,HN.out,List.all_cons,HO.out,decide_eq_true (by omega)];rfl
     go_wp2
     go_round
     case rel=>exact ⟨k + 1,by omega,by go_num,HF.out⟩
     case measure=>simp [intOf];omega
  ·have HF:Hid ((bytes s).all letterS = true):=by show _ = _;rw [← HR.out,bytes_drop_end s k hlt];rfl
   go_wp2
   go_ret
   exact ⟨by rw [HF.out];rfl,rfl⟩
theorem toList_eq_of {s t:ByteArray} (h:s.toList = t.toList):s = t:=by
 rw [Lib.toList_data,Lib.toList_data] at h
 exact ByteArray.ext (Array.toList_inj.1 h)
theorem accent_true:∀ x ∈ accentsL,inS accentsL x = true:=by decide +kernel
set_option maxHeartbeats 1000000 in
theorem accent_q (s:ByteArray) (w:World):Calls Try.prog 28 #[.string s] w fun e w'=>e = .returned (.bool (inS accentsL s))∧w = w':=by
 by_cases h:s ∈ accentsL
 ·have HF:=hid (accent_true s h)
  rw [HF.out]
  clear HF
  unfold accentsL at h
  simp only [List.mem_cons,List.not_mem_nil,or_false] at h
  rcases h with rfl | rfl | rfl | rfl | rfl | rfl
  all_goals
   go_enter Try.func28,Try.ntmps28
   go_wp2
   go_ret
   exact ⟨rfl,rfl⟩
 ·have HF:Hid (inS accentsL s = false):=by
   show _ = _
   unfold inS
   rw [List.any_eq_false]
   intro x hx hxs
   exact h (by have:=toList_eq_of (beq_iff_eq.1 hxs);rw [← this];exact hx)
  rw [HF.out]
  unfold accentsL at h
  simp only [List.mem_cons,List.not_mem_nil,or_false,not_or] at h
  obtain ⟨n0,n1,n2,n3,n4,n5⟩:=h
  have m0:(s.toList == [104,97,116]) = false:=by rw [beq_eq_false_iff_ne];intro e;exact n0 (toList_eq_of (e.trans (by decide +kernel)))
  have l0:([104,97,116] == s.toList) = false:=by rw [beq_eq_false_iff_ne];intro e;exact n0 (toList_eq_of (e.symm.trans (by decide +kernel)))
  have m1:(s.toList == [98,97,114]) = false:=by rw [beq_eq_false_iff_ne];intro e;exact n1 (toList_eq_of (e.trans (by decide +kernel)))
  have l1:([98,97,114] == s.toList) = false:=by rw [beq_eq_false_iff_ne];intro e;exact n1 (toList_eq_of (e.symm.trans (by decide +kernel)))
  have m2:(s.toList == [118,101,99]) = false:=by rw [beq_eq_false_iff_ne];intro e;exact n2 (toList_eq_of (e.trans (by decide +kernel)))
  have l2:([118,101,99] == s.toList) = false:=by rw [beq_eq_false_iff_ne];intro e;exact n2 (toList_eq_of (e.symm.trans (by decide +kernel)))
  have m3:(s.toList == [100,111,116]) = false:=by rw [beq_eq_false_iff_ne];intro e;exact n3 (toList_eq_of (e.trans (by decide +kernel)))
  have l3:([100,111,116] == s.toList) = false:=by rw [beq_eq_false_iff_ne];intro e;exact n3 (toList_eq_of (e.symm.trans (by decide +kernel)))
  have m4:(s.toList == [116,105,108,100,101]) = false:=by rw [beq_eq_false_iff_ne];intro e;exact n4 (toList_eq_of (e.trans (by decide +kernel)))
  have l4:([116,105,108,100,101] == s.toList) = false:=by rw [beq_eq_false_iff_ne];intro e;exact n4 (toList_eq_of (e.symm.trans (by decide +kernel)))
  have m5:(s.toList == [99,104,101,99,107]) = false:=by rw [beq_eq_false_iff_ne];intro e;exact n5 (toList_eq_of (e.trans (by decide +kernel)))
  have l5:([99,104,101,99,107] == s.toList) = false:=by rw [beq_eq_false_iff_ne];intro e;exact n5 (toList_eq_of (e.symm.trans (by decide +kernel)))
  clear n0 n1 n2 n3 n4 n5
  go_enter Try.func28,Try.ntmps28
  go_wp2
  go_ret
  exact ⟨rfl,rfl⟩
theorem keyword_true:∀ x ∈ keywordsL,inS keywordsL x = true:=by decide +kernel
set_option maxHeartbeats 1000000 in
theorem keyword_q (s:ByteArray) (w:World):Calls Try.prog 27 #[.string s] w fun e w'=>e = .returned (.bool (inS keywordsL s))∧w = w':=by
 by_cases h:s ∈ keywordsL
 ·have HF:=hid (keyword_true s h)
  rw [HF.out]
  clear HF
  unfold keywordsL at h
  simp only [List.mem_cons,List.not_mem_nil,or_false] at h
  rcases h with rfl | rfl | rfl | rfl
  all_goals
   go_enter Try.func27,Try.ntmps27
   go_wp2
   go_ret
   exact ⟨rfl,rfl⟩
 ·have HF:Hid (inS keywordsL s = false):=by
   show _ = _
   unfold inS
   rw [List.any_eq_false]
   intro x hx hxs
   exact h (by have:=toList_eq_of (beq_iff_eq.1 hxs);rw [← this];exact hx)
  rw [HF.out]
  unfold keywordsL at h
  simp only [List.mem_cons,List.not_mem_nil,or_false,not_or] at h
  obtain ⟨n0,n1,n2,n3⟩:=h
  have m0:(s.toList == [102,114,97,99]) = false:=by rw [beq_eq_false_iff_ne];intro e;exact n0 (toList_eq_of (e.trans (by decide +kernel)))
  have l0:([102,114,97,99] == s.toList) = false:=by rw [beq_eq_false_iff_ne];intro e;exact n0 (toList_eq_of (e.symm.trans (by decide +kernel)))
  have m1:(s.toList == [114,111,111,116]) = false:=by rw [beq_eq_false_iff_ne];intro e;exact n1 (toList_eq_of (e.trans (by decide +kernel)))
  have l1:([114,111,111,116] == s.toList) = false:=by rw [beq_eq_false_iff_ne];intro e;exact n1 (toList_eq_of (e.symm.trans (by decide +kernel)))
  have m2:(s.toList == [109,97,116,114,105,120]) = false:=by rw [beq_eq_false_iff_ne];intro e;exact n2 (toList_eq_of (e.trans (by decide +kernel)))
  have l2:([109,97,116,114,105,120] == s.toList) = false:=by rw [beq_eq_false_iff_ne];intro e;exact n2 (toList_eq_of (e.symm.trans (by decide +kernel)))
  have m3:(s.toList == [102,101,110,99,101]) = false:=by rw [beq_eq_false_iff_ne];intro e;exact n3 (toList_eq_of (e.trans (by decide +kernel)))
  have l3:([102,101,110,99,101] == s.toList) = false:=by rw [beq_eq_false_iff_ne];intro e;exact n3 (toList_eq_of (e.symm.trans (by decide +kernel)))
  clear n0 n1 n2 n3
  go_enter Try.func27,Try.ntmps27
  go_wp2
  go_ret
  exact ⟨rfl,rfl⟩
theorem indexByte_q (s:ByteArray) (c:Int) (w:World) :
  Calls Try.prog 57 #[.string s,.int .u8 c] w fun e w'=>e = .returned (.int .i64 (Lib.indexByte s.data.toList c.toNat.toUInt8))∧w' = w:=by
 go_enter Try.func57,Try.ntmps57
 go_wp2
 rw [run_callFunc_extern Try.func66 (by kernel_rfl) (by kernel_rfl) (by kernel_rfl) (e:=Extern.BytealgIndexByte.indexByte) (by kernel_rfl),Lib.run_indexByteString]
 simp only [Result.andThen]
 rw [Oper.upon_value]
 go_wp2
 go_ret
 exact ⟨rfl,rfl⟩
theorem stringsIndexByte_q (s:ByteArray) (c:Int) (w:World) :
  Calls Try.prog 63 #[.string s,.int .u8 c] w fun e w'=>e = .returned (.int .i64 (Lib.indexByte s.data.toList c.toNat.toUInt8))∧w' = w:=by
 go_enter Try.func63,Try.ntmps63
 go_wp2_with fail
 refine (indexByte_q _ _ _).mono ?_
 rintro e w' ⟨rfl,rfl⟩
 go_wp2_with fail
 go_ret
 exact ⟨rfl,rfl⟩
theorem index_one (s:ByteArray) (c:UInt8) (w:World) :
  Calls Try.prog 49 #[.string s,.string ⟨#[c]⟩] w fun e w'=>e = .returned (.int .i64 (Lib.indexByte s.data.toList c))∧w' = w:=by
 go_enter Try.func49,Try.ntmps49
 go_wp2_with (go_at_call 57;refine (indexByte_q _ _ _).mono ?_;rintro e w' ⟨rfl,rfl⟩)
 ·have h:([c] == s.toList) = true:=by assumption
  go_ret
  refine ⟨?_,rfl⟩
  have e:s.data.toList = [c]:=by rw [← Lib.toList_data];exact (beq_iff_eq.1 h).symm
  rw [e]
  simp [Lib.indexByte]
 ·go_ret
  exact ⟨rfl,rfl⟩
end Go.Proofs.Ythpngeboknmllaa
