/- Texts put together. -/
import Derived.Test.YthpngeboknmllaaQ9bda6e984b
import Derived.Test.YthpngeboknmllaaQf331e7a89e
import Derived.Lib.Walk
import Derived.Lib.Strings
import Derived.Lib.Bytealg
set_option linter.unusedVariables false
set_option linter.unusedSimpArgs false
set_option maxRecDepth 100000
namespace Go.Proofs.Ythpngeboknmllaa
open Go.RowKit
theorem empty_q (s:ByteArray) (w:World):Calls Try.prog 50 #[.string s] w fun e w'=>e = .returned (.bool s.toList.isEmpty)∧w = w':=by
 cases hq:s.toList.isEmpty
 all_goals
  go_enter Try.func50,Try.ntmps50
  go_wp2_with fail
  go_ret
  exact ⟨rfl,rfl⟩
set_option maxHeartbeats 400000 in
theorem digits_q (s:ByteArray) (w:World) (hs:s.size≤maxLen) :
  Calls Try.prog 62 #[.string s] w fun e w'=>e = .returned (.bool ((bytes s).all digitS && !s.toList.isEmpty))∧w = w':=by
 unfold maxLen at hs
 go_enter Try.func62,Try.ntmps62
 go_wp2
 go_loop [3] (fun i=>∃ k:Nat,k≤s.size∧i = .int .i64 k∧((bytes s).drop k).all digitS = (bytes s).all digitS) (fun i=>s.size - (intOf i).toNat)
 case atStart=>exact ⟨0,Nat.zero_le _,rfl,rfl⟩
 case round =>
  obtain ⟨k,hk,rfl,hrest⟩:=hrel
  have HR:=hid hrest
  clear hrest
  by_cases hlt:k < s.size
  ·have HN:=hid (bytes_drop s k hlt)
   by_cases h1:(s[k].toNat:Int) < 48
   ·have HF:Hid ((bytes s).all digitS = false):=by show _ = _;rw [← HR.out,HN.out,List.all_cons,digitS,decide_eq_false (by omega)];rfl
    go_wp2
    go_ret
    exact ⟨by rw [HF.out];rfl,rfl⟩
   ·have d1:decide ((s[k].toNat:Int) < 48) = false:=by simpa using h1
    by_cases h2:57 < (s[k].toNat:Int)
    ·have HF:Hid ((bytes s).all digitS = false):=by show _ = _;rw [← HR.out,HN.out,List.all_cons,digitS,decide_eq_false (by omega)];rfl
     go_wp2
     go_ret
     exact ⟨by rw [HF.out];rfl,rfl⟩
    ·have d2:decide (57 < (s[k].toNat:Int)) = false:=by simpa using h2
     have HF:Hid (((bytes s).drop (k + 1)).all digitS = (bytes s).all digitS):=by show _ = _;rw [← HR.out,HN.out,List.all_cons,digitS,decide_eq_true (show 48≤(s[k].toNat:Int)∧(s[k].toNat:Int)≤57 by omega)];rfl
     go_wp2
     go_round
     case rel=>exact ⟨k + 1,by omega,by go_num,HF.out⟩
     case measure=>simp [intOf];omega
  ·have HF:Hid ((bytes s).all digitS = true):=by show _ = _;rw [← HR.out,bytes_drop_end s k hlt];rfl
   cases hq:s.toList.isEmpty
   all_goals
    go_wp2
    go_ret
    exact ⟨by first | rfl | (rw [HF.out];rfl),rfl⟩
def plainS (s:ByteArray):Bool:=decide (s.size≤200) && printableS (bytes s)
set_option maxHeartbeats 400000 in
theorem plain_q (s:ByteArray) (w:World) (hs:s.size≤maxLen) :
  Calls Try.prog 52 #[.string s] w fun e w'=>e = .returned (.bool (plainS s))∧w = w':=by
 unfold maxLen at hs
 go_enter Try.func52,Try.ntmps52
 go_wp2
 go_loop [3] (fun i=>∃ k:Nat,k≤s.size∧i = .int .i64 k∧printableS ((bytes s).drop k) = printableS (bytes s)) (fun i=>s.size - (intOf i).toNat)
 case atStart=>exact ⟨0,Nat.zero_le _,rfl,rfl⟩
 case round =>
  obtain ⟨k,hk,rfl,hrest⟩:=hrel
  have HR:=hid hrest
  clear hrest
  by_cases hlt:k < s.size
  ·have HN:=hid (bytes_drop s k hlt)
   by_cases h1:(s[k].toNat:Int) < 32
   ·have HF:Hid (plainS s = false):=by show _ = _;rw [plainS,← HR.out,HN.out,printableS,List.all_cons,decide_eq_false (show ¬ (32≤(s[k].toNat:Int)∧(s[k].toNat:Int)≤126) by omega)];simp
    go_wp2
    go_ret
    exact ⟨by rw [HF.out];rfl,rfl⟩
   ·have d1:decide ((s[k].toNat:Int) < 32) = false:=by simpa using h1
    by_cases h2:126 < (s[k].toNat:Int)
    ·have HF:Hid (plainS s = false):=by show _ = _;rw [plainS,← HR.out,HN.out,printableS,List.all_cons,decide_eq_false (show ¬ (32≤(s[k].toNat:Int)∧(s[k].toNat:Int)≤126) by omega)];simp
     go_wp2
     go_ret
     exact ⟨by rw [HF.out];rfl,rfl⟩
    ·have d2:decide (126 < (s[k].toNat:Int)) = false:=by simpa using h2
     have HF:Hid (printableS ((bytes s).drop (k + 1)) = printableS (bytes s)):=by show _ = _;rw [← HR.out,HN.out,printableS,printableS,List.all_cons,decide_eq_true (show 32≤(s[k].toNat:Int)∧(s[k].toNat:Int)≤126 by omega)];rfl
     go_wp2
     go_round
     case rel=>exact ⟨k + 1,by omega,by go_num,HF.out⟩
     case measure=>simp [intOf];omega
  ·have HP:Hid (printableS (bytes s) = true):=by show _ = _;rw [← HR.out,bytes_drop_end s k hlt];rfl
   by_cases h3:s.size≤200
   ·have HF:Hid (plainS s = true):=by show _ = _;rw [plainS,HP.out,decide_eq_true h3];rfl
    go_wp2
    go_ret
    exact ⟨by rw [HF.out];first | done | rfl | (simp;omega),rfl⟩
   ·have HF:Hid (plainS s = false):=by show _ = _;rw [plainS,HP.out,decide_eq_false h3];rfl
    have d3:decide ((s.size:Int)≤200) = false:=by simp;omega
    go_wp2
    go_ret
    exact ⟨by rw [HF.out];first | done | rfl | (simp;omega),rfl⟩
end Go.Proofs.Ythpngeboknmllaa
