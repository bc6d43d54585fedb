/- Texts put together. -/
import Derived.Test.YthpngeboknmllaaQ6020c73705
import Derived.Deep.QuietTactic
import Derived.BigQuiet
set_option linter.unusedVariables false
set_option linter.unusedSimpArgs false
namespace Go.Proofs.Ythpngeboknmllaa
open Go.RowKit
def letterS (c:Int):Bool:=decide (97≤c∧c≤122) || decide (65≤c∧c≤90)
def digitS (c:Int):Bool:=decide (48≤c∧c≤57)
theorem digit_q (c:Int) (w:World) (h0:0≤c) (h1:c≤255):Calls Try.prog 69 #[.int .u8 c] w fun e w'=>e = .returned (.bool (digitS c))∧w = w':=by
 by_cases a:48≤c
 ·by_cases b:c≤57
  ·have HF:Hid (digitS c = true):=by show _ = _;simp [digitS,a,b]
   go_enter Try.func69,Try.ntmps69
   go_wp2_with fail
   go_ret
   exact ⟨by rw [HF.out];rfl,rfl⟩
  ·have HF:Hid (digitS c = false):=by show _ = _;simp [digitS,b]
   go_enter Try.func69,Try.ntmps69
   go_wp2_with fail
   go_ret
   exact ⟨by rw [HF.out];first | done | rfl | (simp;omega),rfl⟩
 ·have HF:Hid (digitS c = false):=by show _ = _;simp [digitS,a]
  go_enter Try.func69,Try.ntmps69
  go_wp2_with fail
  go_ret
  exact ⟨by rw [HF.out];first | done | rfl | (simp;omega),rfl⟩
theorem letter_q (c:Int) (w:World) (h0:0≤c) (h1:c≤255):Calls Try.prog 34 #[.int .u8 c] w fun e w'=>e = .returned (.bool (letterS c))∧w = w':=by
 have hc:(97≤c∧c≤122)∨(65≤c∧c≤90)∨c < 65∨(90 < c∧c < 97)∨122 < c:=by omega
 rcases hc with ⟨a,b⟩ | ⟨a,b⟩ | a | ⟨a,b⟩ | a
 ·have HF:Hid (letterS c = true):=by show _ = _;simp [letterS,a,b]
  go_enter Try.func34,Try.ntmps34
  go_wp2_with fail
  go_ret
  exact ⟨by rw [HF.out];rfl,rfl⟩
 ·have HF:Hid (letterS c = true):=by show _ = _;simp [letterS,a,b]
  have n1:decide (97≤c) = false:=by simp;omega
  go_enter Try.func34,Try.ntmps34
  go_wp2_with fail
  go_ret
  exact ⟨by rw [HF.out];rfl,rfl⟩
 ·have HF:Hid (letterS c = false):=by show _ = _;simp [letterS];omega
  have n1:decide (97≤c) = false:=by simp;omega
  have n2:decide (65≤c) = false:=by simp;omega
  go_enter Try.func34,Try.ntmps34
  go_wp2_with fail
  go_ret
  exact ⟨by rw [HF.out];rfl,rfl⟩
 ·have HF:Hid (letterS c = false):=by show _ = _;simp [letterS];omega
  have n1:decide (97≤c) = false:=by simp;omega
  have n2:decide (65≤c) = true:=by simp;omega
  have n3:decide (c≤90) = false:=by simp;omega
  go_enter Try.func34,Try.ntmps34
  go_wp2_with fail
  go_ret
  exact ⟨by rw [HF.out];rfl,rfl⟩
 ·have HF:Hid (letterS c = false):=by show _ = _;simp [letterS];omega
  have n1:decide (97≤c) = true:=by simp;omega
  have n2:decide (c≤122) = false:=by simp;omega
  have n3:decide (65≤c) = true:=by simp;omega
  have n4:decide (c≤90) = false:=by simp;omega
  go_enter Try.func34,Try.ntmps34
  go_wp2_with fail
  go_ret
  exact ⟨by rw [HF.out];rfl,rfl⟩
def hasS (l:List Int) (c:Int):Bool:=l.any (· == c)
set_option maxHeartbeats 400000 in
theorem has_q (s:ByteArray) (c:Int) (w:World) (hs:s.size≤maxLen) :
  Calls Try.prog 44 #[.string s,.int .u8 c] w fun e w'=>e = .returned (.bool (hasS (bytes s) c))∧w = w':=by
 unfold maxLen at hs
 go_enter Try.func44,Try.ntmps44
 go_wp2
 go_loop [5] (fun i=>∃ k:Nat,k≤s.size∧i = .int .i64 k∧hasS ((bytes s).drop k) c = hasS (bytes s) c) (fun i=>s.size - (intOf i).toNat)
 case atStart=>exact ⟨0,Nat.zero_le _,rfl,rfl⟩
 case round =>
  obtain ⟨k,hk,rfl,hrest⟩:=hrel
  have HR:=hid hrest
  clear hrest
  by_cases hlt:k < s.size
  ·have HN:=hid (bytes_drop s k hlt)
   by_cases he:(s[k].toNat:Int) = c
   ·have hb:((s[k].toNat:Int) == c) = true:=by simpa using he
    have HF:Hid (hasS (bytes s) c = true):=by show _ = _;rw [← HR.out,HN.out,hasS,List.any_cons,hb];rfl
    clear he
    go_wp2
    go_ret
    exact ⟨by rw [HF.out];rfl,rfl⟩
   ·have hb:((s[k].toNat:Int) == c) = false:=by simpa using he
    have HF:Hid (hasS ((bytes s).drop (k + 1)) c = hasS (bytes s) c):=by show _ = _;rw [← HR.out,HN.out,hasS,hasS,List.any_cons,hb];rfl
    clear he
    go_wp2
    go_round
    case rel=>exact ⟨k + 1,by omega,by go_num,HF.out⟩
    case measure=>simp [intOf];omega
  ·have HF:Hid (hasS (bytes s) c = false):=by show _ = _;rw [← HR.out,bytes_drop_end s k hlt];rfl
   go_wp2
   go_ret
   exact ⟨by rw [HF.out];rfl,rfl⟩
def signsB:ByteArray:=⟨#[43,45,42,47,61,60,62,44,59,58,33,124,39,63,126,64]⟩
def characterS (c:Int):Bool:=letterS c || hasS (bytes signsB) c
theorem character_q (c:Int) (w:World) (h0:0≤c) (h1:c≤255):Calls Try.prog 33 #[.int .u8 c] w fun e w'=>e = .returned (.bool (characterS c))∧w = w':=by
 have HL:=hid (letter_q c w h0 h1)
 have HH:Hid (∀ W,Calls Try.prog 44 #[.string signsB,.int .u8 c] W fun e w'=>e = .returned (.bool (hasS (bytes signsB) c))∧W = w'):=fun W=>has_q signsB c W (by decide)
 have HF:Hid (characterS c = (letterS c || hasS (bytes signsB) c)):=rfl
 generalize letterS c = a at *
 generalize hasS (bytes signsB) c = b at *
 unfold signsB at HH
 cases a <;> cases b
 all_goals
  go_enter Try.func33,Try.ntmps33
  go_wp2_with fail
  with_reducible refine HL.out.mono ?_
  rintro e w1 ⟨rfl,rfl⟩
  go_wp2_with fail
  try (refine (HH.out _).mono ?_;rintro e w1 ⟨rfl,rfl⟩;go_wp2_with fail)
  go_ret
  exact ⟨by rw [HF.out];rfl,rfl⟩
set_option maxHeartbeats 400000 in
theorem printable_q (s:ByteArray) (w:World) (hs:s.size≤maxLen) :
  Calls Try.prog 65 #[.string s] w fun e w'=>e = .returned (.bool (printableS (bytes s)))∧w = w':=by
 unfold maxLen at hs
 go_enter Try.func65,Try.ntmps65
 go_wp2
 go_loop [3] (fun i=>∃ k:Nat,k≤s.size∧i = .int .i64 k∧printableS ((bytes s).drop k) = printableS (bytes s)) (fun i=>s.size - (intOf i).toNat)
 case atStart=>exact ⟨0,Nat.zero_le _,rfl,rfl⟩
 case round =>
  obtain ⟨k,hk,rfl,hrest⟩:=hrel
  have HR:=hid hrest
  clear hrest
  by_cases hlt:k < s.size
  ·have HN:=hid (bytes_drop s k hlt)
   by_cases h1:(s[k].toNat:Int) < 32
   ·have HF:Hid (printableS (bytes s) = false):=by show _ = _;rw [← HR.out,HN.out,printableS,List.all_cons,decide_eq_false (by omega)];rfl
    go_wp2
    go_ret
    exact ⟨by rw [HF.out];rfl,rfl⟩
   ·have d1:decide ((s[k].toNat:Int) < 32) = false:=by simpa using h1
    by_cases h2:126 < (s[k].toNat:Int)
    ·have HF:Hid (printableS (bytes s) = false):=by show _ = _;rw [← HR.out,HN.out,printableS,List.all_cons,decide_eq_false (by omega)];rfl
     go_wp2
     go_ret
     exact ⟨by rw [HF.out];rfl,rfl⟩
    ·have d2:decide (126 < (s[k].toNat:Int)) = false:=by simpa using h2
     have HF:Hid (printableS ((bytes s).drop (k + 1)) = printableS (bytes s)):=by show _ = _;rw [← HR.out,HN.out,printableS,printableS,List.all_cons,decide_eq_true (show 32≤(s[k].toNat:Int)∧(s[k].toNat:Int)≤126 by omega)];rfl
     go_wp2
     go_round
     case rel=>exact ⟨k + 1,by omega,by go_num,HF.out⟩
     case measure=>simp [intOf];omega
  ·have HF:Hid (printableS (bytes s) = true):=by show _ = _;rw [← HR.out,bytes_drop_end s k hlt];rfl
   go_wp2
   go_ret
   exact ⟨by rw [HF.out];rfl,rfl⟩
end Go.Proofs.Ythpngeboknmllaa
