/- Texts put together. -/
import Derived.Test.YthpngeboknmllaaQc1750c999e
import Derived.Test.YthpngeboknmllaaQ99d104254e
set_option linter.unusedVariables false
set_option linter.unusedSimpArgs false
set_option maxRecDepth 100000
namespace Go.Proofs.Ythpngeboknmllaa
open Go.RowKit
theorem drew2 (w:World) (a b:Nat):∃ n,(w.drewN a).drewN b = w.drewN n:=by simp only [World.drewN_drewN];exact ⟨_,rfl⟩
set_option maxHeartbeats 4000000 in
theorem own_1 (c:Int) (s:ByteArray) (A:Option Addr) (n cap B g o:Nat) (b:Bool) (w:World) (hn:n≤maxLen)
  (c0:w.cell? ⟨g,o,none⟩ = some (.int .i64 1)) (c1:w.cell? ⟨g,o + 1,none⟩ = some (.string s)) (c2:w.cell? ⟨g,o + 2,none⟩ = some (.int .i64 c)) (c3:w.cell? ⟨g,o + 3,none⟩ = some (.slice A n cap))
  (k1:w.cell? ⟨B,4,none⟩ = some (.int .i64 0)) (k2:w.cell? ⟨B,5,none⟩ = some (.func (.func 50) #[] #[]))
  (HT:Hid (∀ W,Calls Try.prog 50 #[.string s] W fun e w'=>e = .returned (.bool b)∧∃ n,w' = W.drewN n)) :
  Calls Try.prog 54 #[.pointer (some ⟨B,0,none⟩),.pointer (some ⟨g,o,none⟩)] w fun e w'=>e = .returned (.bool (b && kidsS 1 c n))∧∃ n,w' = w.drewN n:=by
 unfold maxLen at hn
 cases b
 ·go_enter Try.func54,Try.ntmps54
  go_wp2_with fail
  go_quiet (exact Calls.quiet_of (HT.out _))
  go_wp2_with fail
  go_ret
  exact ⟨rfl,_,rfl⟩
 by_cases hc:c = 0
 rotate_left
 ·have d0:(c == 0) = false:=by simpa using hc
  have HF:Hid (kidsS 1 c n = false):=by show _ = _;unfold kidsS;rw [if_neg (by decide),if_pos hc]
  clear hc
  go_enter Try.func54,Try.ntmps54
  go_wp2_with fail
  go_quiet (exact Calls.quiet_of (HT.out _))
  go_wp2_with fail
  go_ret
  exact ⟨by rw [HF.out];first | done | rfl | (simp;done) | (simp;omega),by first | exact ⟨_,rfl⟩ | exact drew2 _ _ _⟩
 subst hc
 by_cases h2:(n:Int)≤200
 ·have d2:decide ((n:Int)≤200) = true:=decide_eq_true h2
  have HF:Hid (kidsS 1 0 n = true):=by show _ = _;unfold kidsS;simp;omega
  go_enter Try.func54,Try.ntmps54
  go_wp2_with fail
  go_quiet (exact Calls.quiet_of (HT.out _))
  go_wp2_with fail
  go_ret
  exact ⟨by rw [HF.out];first | done | rfl | (simp;done) | (simp;omega),by first | exact ⟨_,rfl⟩ | exact drew2 _ _ _⟩
 ·have d2:decide ((n:Int)≤200) = false:=decide_eq_false h2
  have HF:Hid (kidsS 1 0 n = false):=by show _ = _;unfold kidsS;simp;omega
  go_enter Try.func54,Try.ntmps54
  go_wp2_with fail
  go_quiet (exact Calls.quiet_of (HT.out _))
  go_wp2_with fail
  go_ret
  exact ⟨by rw [HF.out];first | done | rfl | (simp;done) | (simp;omega),by first | exact ⟨_,rfl⟩ | exact drew2 _ _ _⟩
set_option maxHeartbeats 4000000 in
theorem own_gen (k f:Nat) (q:Int) (hk:Hid (2≤k∧k≤11)) (HK:Hid (∀ n:Nat,kidsS k 0 n = ((n:Int) == q))) (he:∀ args w,(callFunc f args).run Try.prog w = .ok (.enter f args) w) (x1:1≤(k:Int)) (x2:(k:Int)≤12) (x3:(k:Int) < 13) (x4:((k:Int) == 1) = false) (x5:((k:Int) == 12) = false) (x6:k < 13) (x7:(0:Int)≤(k:Int)) (c:Int) (s:ByteArray) (A:Option Addr) (n cap B g o:Nat) (b:Bool) (w:World) (hn:n≤maxLen)
  (c0:w.cell? ⟨g,o,none⟩ = some (.int .i64 (k:Int))) (c1:w.cell? ⟨g,o + 1,none⟩ = some (.string s)) (c2:w.cell? ⟨g,o + 2,none⟩ = some (.int .i64 c)) (c3:w.cell? ⟨g,o + 3,none⟩ = some (.slice A n cap))
  (k1:w.cell? ⟨B,k * 3 + 1,none⟩ = some (.int .i64 q)) (k2:w.cell? ⟨B,k * 3 + 2,none⟩ = some (.func (.func f) #[] #[]))
  (HT:Hid (∀ W,Calls Try.prog f #[.string s] W fun e w'=>e = .returned (.bool b)∧∃ n,w' = W.drewN n)) :
  Calls Try.prog 54 #[.pointer (some ⟨B,0,none⟩),.pointer (some ⟨g,o,none⟩)] w fun e w'=>e = .returned (.bool (b && kidsS (k:Int) c n))∧∃ n,w' = w.drewN n:=by
 unfold maxLen at hn
 cases b
 ·go_enter Try.func54,Try.ntmps54
  go_wp2_with fail
  go_quiet (exact Calls.quiet_of (HT.out _))
  go_wp2_with fail
  go_ret
  exact ⟨rfl,_,rfl⟩
 by_cases hc:c = 0
 rotate_left
 ·have d0:(c == 0) = false:=by simpa using hc
  have HF:Hid (kidsS (k:Int) c n = false):=by show _ = _;have:=hk.out;unfold kidsS;rw [if_neg (by omega),if_pos hc]
  clear hc
  go_enter Try.func54,Try.ntmps54
  go_wp2_with fail
  go_quiet (exact Calls.quiet_of (HT.out _))
  go_wp2_with fail
  go_quiet (fail)
  go_wp2_with fail
  go_ret
  exact ⟨by rw [HF.out];first | done | rfl | (simp;done) | (simp;omega),by first | exact ⟨_,rfl⟩ | exact drew2 _ _ _⟩
 subst hc
 cases d2:((n:Int) == q)
 ·have HF:Hid (kidsS (k:Int) 0 n = false):=by show _ = _;rw [HK.out,d2]
  go_enter Try.func54,Try.ntmps54
  go_wp2_with fail
  go_quiet (exact Calls.quiet_of (HT.out _))
  go_wp2_with fail
  go_quiet (fail)
  go_wp2_with fail
  go_ret
  exact ⟨by rw [HF.out];first | done | rfl | (simp;done) | (simp;omega),by first | exact ⟨_,rfl⟩ | exact drew2 _ _ _⟩
 ·have HF:Hid (kidsS (k:Int) 0 n = true):=by show _ = _;rw [HK.out,d2]
  go_enter Try.func54,Try.ntmps54
  go_wp2_with fail
  go_quiet (exact Calls.quiet_of (HT.out _))
  go_wp2_with fail
  go_quiet (fail)
  go_wp2_with fail
  go_ret
  exact ⟨by rw [HF.out];first | done | rfl | (simp;done) | (simp;omega),by first | exact ⟨_,rfl⟩ | exact drew2 _ _ _⟩
end Go.Proofs.Ythpngeboknmllaa
