/- Texts put together. -/
import Derived.Test.YthpngeboknmllaaQe06f35c01b
set_option linter.unusedVariables false
set_option linter.unusedSimpArgs false
namespace Go.Proofs.Ythpngeboknmllaa
open Go.RowKit
def kidsS (k c:Int) (n:Nat):Bool :=
 if k = 12 then (decide (1≤c) && decide (c≤16) && decide (1≤(n:Int)) && decide ((n:Int)≤256) && ((n:Int) % c == 0))
 else if c≠0 then false
 else if k = 1 then decide ((n:Int)≤200)
 else if k = 2∨k = 3∨k = 4 then ((n:Int) == 0)
 else if k = 5∨k = 6∨k = 7∨k = 8 then ((n:Int) == 2)
 else if k = 9 then ((n:Int) == 3)
 else if k = 10∨k = 11 then ((n:Int) == 1)
 else false
set_option maxHeartbeats 2000000 in
theorem kids_any (k c:Int) (s:ByteArray) (A:Option Addr) (n cap:Nat) (w:World) (hn:n≤maxLen) :
  Calls Try.prog 56 #[.agg #[.int .i64 k,.string s,.int .i64 c,.slice A n cap]] w fun e w'=>e = .returned (.bool (kidsS k c n))∧Below w.heap.size w w':=by
 unfold maxLen at hn
 have HB:Hid (∀ k,Below w.heap.size w (w.alloc (Obj.cells #[.int .i64 k,.string s,.int .i64 c,.slice A n cap] 31))):=fun k=>(Below.refl _ _).alloc (Nat.le_refl _) _
 by_cases k12:k = 12
 ·subst k12
  by_cases t0:1≤c
  rotate_left
  ·have d0:decide (1≤c) = false:=decide_eq_false t0
   have HF:Hid (kidsS 12 c n = false):=by show _ = _;unfold kidsS;rw [if_pos rfl,decide_eq_false t0];simp
   go_enter Try.func56,Try.ntmps56
   go_wp2_with fail
   go_ret
   exact ⟨by rw [HF.out];first | done | rfl | (simp;done) | (simp;omega),(HB.out _)⟩
  by_cases t1:c≤16
  rotate_left
  ·have d1:decide (c≤16) = false:=decide_eq_false t1
   have HF:Hid (kidsS 12 c n = false):=by show _ = _;unfold kidsS;rw [if_pos rfl,decide_eq_true t0,decide_eq_false t1];simp
   go_enter Try.func56,Try.ntmps56
   go_wp2_with fail
   go_ret
   exact ⟨by rw [HF.out];first | done | rfl | (simp;done) | (simp;omega),(HB.out _)⟩
  by_cases t2:1≤(n:Int)
  rotate_left
  ·have d2:decide (1≤(n:Int)) = false:=decide_eq_false t2
   have HF:Hid (kidsS 12 c n = false):=by show _ = _;unfold kidsS;rw [if_pos rfl,decide_eq_true t0,decide_eq_true t1,decide_eq_false t2];simp
   go_enter Try.func56,Try.ntmps56
   go_wp2_with fail
   go_ret
   exact ⟨by rw [HF.out];first | done | rfl | (simp;done) | (simp;omega),(HB.out _)⟩
  by_cases t3:(n:Int)≤256
  rotate_left
  ·have d3:decide ((n:Int)≤256) = false:=decide_eq_false t3
   have HF:Hid (kidsS 12 c n = false):=by show _ = _;unfold kidsS;rw [if_pos rfl,decide_eq_true t0,decide_eq_true t1,decide_eq_true t2,decide_eq_false t3];simp
   go_enter Try.func56,Try.ntmps56
   go_wp2_with fail
   go_ret
   exact ⟨by rw [HF.out];first | done | rfl | (simp;done) | (simp;omega),(HB.out _)⟩
  have HF:Hid (kidsS 12 c n = ((n:Int) % c == 0)):=by show _ = _;unfold kidsS;rw [if_pos rfl,decide_eq_true t0,decide_eq_true t1,decide_eq_true t2,decide_eq_true t3];rfl
  go_enter Try.func56,Try.ntmps56
  go_wp2_with fail
  go_ret
  exact ⟨by rw [HF.out];first | done | rfl | (simp;done) | (simp;omega),(HB.out _)⟩
 have e12:(k == 12) = false:=by simpa using k12
 by_cases hc:c = 0
 rotate_left
 ·have ec:(c != 0) = true:=by simpa using hc
  have HF:Hid (kidsS k c n = false):=by show _ = _;unfold kidsS;rw [if_neg k12,if_pos hc]
  clear hc k12
  go_enter Try.func56,Try.ntmps56
  go_wp2_with fail
  go_ret
  exact ⟨by rw [HF.out];first | done | rfl | (simp;done) | (simp;omega),(HB.out _)⟩
 subst hc
 by_cases k1:k = 1
 ·subst k1
  clear e12 k12
  have HF:Hid (kidsS 1 0 n = decide ((n:Int)≤200)):=by show _ = _;unfold kidsS;simp
  go_enter Try.func56,Try.ntmps56
  go_wp2_with fail
  go_ret
  exact ⟨by rw [HF.out];first | done | rfl | (simp;done) | (simp;omega),(HB.out _)⟩
 have e1:(k == 1) = false:=by simpa using k1
 by_cases k2:k = 2
 ·subst k2
  clear e12 k12 e1 k1
  have HF:Hid (kidsS 2 0 n = ((n:Int) == 0)):=by show _ = _;unfold kidsS;simp
  go_enter Try.func56,Try.ntmps56
  go_wp2_with fail
  go_ret
  exact ⟨by rw [HF.out];first | done | rfl | (simp;done) | (simp;omega),(HB.out _)⟩
 have e2:(k == 2) = false:=by simpa using k2
 by_cases k3:k = 3
 ·subst k3
  clear e12 k12 e1 k1 e2 k2
  have HF:Hid (kidsS 3 0 n = ((n:Int) == 0)):=by show _ = _;unfold kidsS;simp
  go_enter Try.func56,Try.ntmps56
  go_wp2_with fail
  go_ret
  exact ⟨by rw [HF.out];first | done | rfl | (simp;done) | (simp;omega),(HB.out _)⟩
 have e3:(k == 3) = false:=by simpa using k3
 by_cases k4:k = 4
 ·subst k4
  clear e12 k12 e1 k1 e2 k2 e3 k3
  have HF:Hid (kidsS 4 0 n = ((n:Int) == 0)):=by show _ = _;unfold kidsS;simp
  go_enter Try.func56,Try.ntmps56
  go_wp2_with fail
  go_ret
  exact ⟨by rw [HF.out];first | done | rfl | (simp;done) | (simp;omega),(HB.out _)⟩
 have e4:(k == 4) = false:=by simpa using k4
 by_cases k5:k = 5
 ·subst k5
  clear e12 k12 e1 k1 e2 k2 e3 k3 e4 k4
  have HF:Hid (kidsS 5 0 n = ((n:Int) == 2)):=by show _ = _;unfold kidsS;simp
  go_enter Try.func56,Try.ntmps56
  go_wp2_with fail
  go_ret
  exact ⟨by rw [HF.out];first | done | rfl | (simp;done) | (simp;omega),(HB.out _)⟩
 have e5:(k == 5) = false:=by simpa using k5
 by_cases k6:k = 6
 ·subst k6
  clear e12 k12 e1 k1 e2 k2 e3 k3 e4 k4 e5 k5
  have HF:Hid (kidsS 6 0 n = ((n:Int) == 2)):=by show _ = _;unfold kidsS;simp
  go_enter Try.func56,Try.ntmps56
  go_wp2_with fail
  go_ret
  exact ⟨by rw [HF.out];first | done | rfl | (simp;done) | (simp;omega),(HB.out _)⟩
 have e6:(k == 6) = false:=by simpa using k6
 by_cases k7:k = 7
 ·subst k7
  clear e12 k12 e1 k1 e2 k2 e3 k3 e4 k4 e5 k5 e6 k6
  have HF:Hid (kidsS 7 0 n = ((n:Int) == 2)):=by show _ = _;unfold kidsS;simp
  go_enter Try.func56,Try.ntmps56
  go_wp2_with fail
  go_ret
  exact ⟨by rw [HF.out];first | done | rfl | (simp;done) | (simp;omega),(HB.out _)⟩
 have e7:(k == 7) = false:=by simpa using k7
 by_cases k8:k = 8
 ·subst k8
  clear e12 k12 e1 k1 e2 k2 e3 k3 e4 k4 e5 k5 e6 k6 e7 k7
  have HF:Hid (kidsS 8 0 n = ((n:Int) == 2)):=by show _ = _;unfold kidsS;simp
  go_enter Try.func56,Try.ntmps56
  go_wp2_with fail
  go_ret
  exact ⟨by rw [HF.out];first | done | rfl | (simp;done) | (simp;omega),(HB.out _)⟩
 have e8:(k == 8) = false:=by simpa using k8
 by_cases k9:k = 9
 ·subst k9
  clear e12 k12 e1 k1 e2 k2 e3 k3 e4 k4 e5 k5 e6 k6 e7 k7 e8 k8
  have HF:Hid (kidsS 9 0 n = ((n:Int) == 3)):=by show _ = _;unfold kidsS;simp
  go_enter Try.func56,Try.ntmps56
  go_wp2_with fail
  go_ret
  exact ⟨by rw [HF.out];first | done | rfl | (simp;done) | (simp;omega),(HB.out _)⟩
 have e9:(k == 9) = false:=by simpa using k9
 by_cases k10:k = 10
 ·subst k10
  clear e12 k12 e1 k1 e2 k2 e3 k3 e4 k4 e5 k5 e6 k6 e7 k7 e8 k8 e9 k9
  have HF:Hid (kidsS 10 0 n = ((n:Int) == 1)):=by show _ = _;unfold kidsS;simp
  go_enter Try.func56,Try.ntmps56
  go_wp2_with fail
  go_ret
  exact ⟨by rw [HF.out];first | done | rfl | (simp;done) | (simp;omega),(HB.out _)⟩
 have e10:(k == 10) = false:=by simpa using k10
 by_cases k11:k = 11
 ·subst k11
  clear e12 k12 e1 k1 e2 k2 e3 k3 e4 k4 e5 k5 e6 k6 e7 k7 e8 k8 e9 k9 e10 k10
  have HF:Hid (kidsS 11 0 n = ((n:Int) == 1)):=by show _ = _;unfold kidsS;simp
  go_enter Try.func56,Try.ntmps56
  go_wp2_with fail
  go_ret
  exact ⟨by rw [HF.out];first | done | rfl | (simp;done) | (simp;omega),(HB.out _)⟩
 have e11:(k == 11) = false:=by simpa using k11
 have HF:Hid (kidsS k 0 n = false):=by show _ = _;unfold kidsS;simp [k12,k1,k2,k3,k4,k5,k6,k7,k8,k9,k10,k11]
 clear k12 k1 k2 k3 k4 k5 k6 k7 k8 k9 k10 k11
 go_enter Try.func56,Try.ntmps56
 go_wp2_with fail
 go_ret
 exact ⟨by rw [HF.out];first | done | rfl | (simp;done) | (simp;omega),(HB.out _)⟩
end Go.Proofs.Ythpngeboknmllaa
