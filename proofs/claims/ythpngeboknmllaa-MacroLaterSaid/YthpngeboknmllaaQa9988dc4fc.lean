/- Texts put together. -/
import Derived.Test.YthpngeboknmllaaQc1750c999e
import Derived.Test.YthpngeboknmllaaQ99d104254e
set_option linter.unusedVariables false
set_option linter.unusedSimpArgs false
set_option maxRecDepth 100000
namespace Go.Proofs.Ythpngeboknmllaa
open Go.RowKit
theorem drew2m (w:World) (a b:Nat):∃ n,(w.drewN a).drewN b = w.drewN n:=by simp only [World.drewN_drewN];exact ⟨_,rfl⟩
set_option maxHeartbeats 4000000 in
theorem own_12 (c:Int) (s:ByteArray) (A:Option Addr) (n cap B g o:Nat) (b:Bool) (w:World) (hn:n≤maxLen)
  (c0:w.cell? ⟨g,o,none⟩ = some (.int .i64 12)) (c1:w.cell? ⟨g,o + 1,none⟩ = some (.string s)) (c2:w.cell? ⟨g,o + 2,none⟩ = some (.int .i64 c)) (c3:w.cell? ⟨g,o + 3,none⟩ = some (.slice A n cap))
  (k1:w.cell? ⟨B,37,none⟩ = some (.int .i64 0)) (k2:w.cell? ⟨B,38,none⟩ = some (.func (.func 50) #[] #[]))
  (HT:Hid (∀ W,Calls Try.prog 50 #[.string s] W fun e w'=>e = .returned (.bool b)∧∃ n,w' = W.drewN n)) :
  Calls Try.prog 54 #[.pointer (some ⟨B,0,none⟩),.pointer (some ⟨g,o,none⟩)] w fun e w'=>e = .returned (.bool (b && kidsS 12 c n))∧∃ n,w' = w.drewN n:=by
 unfold maxLen at hn
 cases b
 ·go_enter Try.func54,Try.ntmps54
  go_wp2_with fail
  go_quiet (exact Calls.quiet_of (HT.out _))
  go_wp2_with fail
  go_ret
  exact ⟨rfl,_,rfl⟩
 by_cases t0:1≤c
 rotate_left
 ·have d0:decide (1≤c) = false:=decide_eq_false t0
  have HF:Hid (kidsS 12 c n = false):=by show _ = _;unfold kidsS;rw [if_pos rfl,decide_eq_false t0];simp
  go_enter Try.func54,Try.ntmps54
  go_wp2_with fail
  go_quiet (exact Calls.quiet_of (HT.out _))
  go_wp2_with fail
  go_quiet (fail)
  go_wp2_with fail
  go_ret
  exact ⟨by rw [HF.out];first | done | rfl | (simp;done) | (simp;omega),by first | exact ⟨_,rfl⟩ | exact drew2m _ _ _⟩
 by_cases t1:c≤16
 rotate_left
 ·have d1:decide (c≤16) = false:=decide_eq_false t1
  have HF:Hid (kidsS 12 c n = false):=by show _ = _;unfold kidsS;rw [if_pos rfl,decide_eq_true t0,decide_eq_false t1];simp
  go_enter Try.func54,Try.ntmps54
  go_wp2_with fail
  go_quiet (exact Calls.quiet_of (HT.out _))
  go_wp2_with fail
  go_quiet (fail)
  go_wp2_with fail
  go_ret
  exact ⟨by rw [HF.out];first | done | rfl | (simp;done) | (simp;omega),by first | exact ⟨_,rfl⟩ | exact drew2m _ _ _⟩
 by_cases t2:1≤(n:Int)
 rotate_left
 ·have d2:decide (1≤(n:Int)) = false:=decide_eq_false t2
  have HF:Hid (kidsS 12 c n = false):=by show _ = _;unfold kidsS;rw [if_pos rfl,decide_eq_true t0,decide_eq_true t1,decide_eq_false t2];simp
  go_enter Try.func54,Try.ntmps54
  go_wp2_with fail
  go_quiet (exact Calls.quiet_of (HT.out _))
  go_wp2_with fail
  go_quiet (fail)
  go_wp2_with fail
  go_ret
  exact ⟨by rw [HF.out];first | done | rfl | (simp;done) | (simp;omega),by first | exact ⟨_,rfl⟩ | exact drew2m _ _ _⟩
 by_cases t3:(n:Int)≤256
 rotate_left
 ·have d3:decide ((n:Int)≤256) = false:=decide_eq_false t3
  have HF:Hid (kidsS 12 c n = false):=by show _ = _;unfold kidsS;rw [if_pos rfl,decide_eq_true t0,decide_eq_true t1,decide_eq_true t2,decide_eq_false t3];simp
  go_enter Try.func54,Try.ntmps54
  go_wp2_with fail
  go_quiet (exact Calls.quiet_of (HT.out _))
  go_wp2_with fail
  go_quiet (fail)
  go_wp2_with fail
  go_ret
  exact ⟨by rw [HF.out];first | done | rfl | (simp;done) | (simp;omega),by first | exact ⟨_,rfl⟩ | exact drew2m _ _ _⟩
 have c9:c≠0:=by omega
 have ht:(n:Int).tmod c = (n:Int) % c:=Int.tmod_eq_emod_of_nonneg (by omega)
 have HF0:Hid (kidsS 12 c n = ((n:Int) % c == 0)):=by show _ = _;unfold kidsS;rw [if_pos rfl,decide_eq_true t0,decide_eq_true t1,decide_eq_true t2,decide_eq_true t3];rfl
 cases hm:((n:Int) % c == 0)
 all_goals
  have hm2:((n:Int).tmod c == 0) = _:=(congrArg (· == 0) ht).trans hm
  have HF:=hid (HF0.out.trans hm)
  clear ht
  go_enter Try.func54,Try.ntmps54
  go_wp2_with fail
  go_quiet (exact Calls.quiet_of (HT.out _))
  go_wp2_with fail
  go_quiet (fail)
  go_wp2_with fail
  go_ret
  exact ⟨by rw [HF.out];first | done | rfl | (simp;done) | (simp;omega),by first | exact ⟨_,rfl⟩ | exact drew2m _ _ _⟩
end Go.Proofs.Ythpngeboknmllaa
