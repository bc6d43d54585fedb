/- Texts put together: Node2, Own, OwnM, OwnA. -/
import Derived.Test.YtmahiejfniaahaaGreatDoorBasev
import Derived.Test.YtmahiejfniaahaaGreatDoorGC
import Derived.Shelf.Abstract
set_option linter.unusedVariables false
set_option linter.unusedSimpArgs false
namespace Go.Proofs.YtmahiejfniaahaaGreatDoor
open Go.RowKit
def kidsS (k c : Int) (n : Nat) : Bool :=
  if k = 12 then (decide (1 ≤ c) && decide (c ≤ 16) && decide (1 ≤ (n : Int)) && decide ((n : Int) ≤ 256) && ((n : Int) % c == 0))
  else if c ≠ 0 then false
  else if k = 1 then decide ((n : Int) ≤ 200)
  else if k = 2 ∨ k = 3 ∨ k = 4 then ((n : Int) == 0)
  else if k = 5 ∨ k = 6 ∨ k = 7 ∨ k = 8 then ((n : Int) == 2)
  else if k = 9 then ((n : Int) == 3)
  else if k = 10 ∨ k = 11 then ((n : Int) == 1)
  else false
set_option maxHeartbeats 2000000 in
theorem kids_any (k c : Int) (s : ByteArray) (A : Option Addr) (n cap : Nat) (w : World) (hn : n ≤ maxLen) :
    Calls Tryz.prog 103 #[.agg #[.int .i64 k, .string s, .int .i64 c, .slice A n cap]] w fun e w' => e = .returned (.bool (kidsS k c n)) ∧ Below w.heap.size w w' := by
  unfold maxLen at hn
  have HB : Hid (∀ k, Below w.heap.size w (w.alloc (Obj.cells #[.int .i64 k, .string s, .int .i64 c, .slice A n cap] 24))) := fun k => (Below.refl _ _).alloc (Nat.le_refl _) _
  by_cases k12 : k = 12
  · subst k12
    by_cases t0 : 1 ≤ c
    rotate_left
    · have d0 : decide (1 ≤ c) = false := decide_eq_false t0
      have HF : Hid (kidsS 12 c n = false) := by show _ = _; unfold kidsS; rw [if_pos rfl, decide_eq_false t0]; simp
      go_enter Tryz.func103, Tryz.ntmps103
      go_wp2_with fail
      go_ret
      exact ⟨by rw [HF.out]; first | done | rfl | (simp; done) | (simp; omega), (HB.out _)⟩
    by_cases t1 : c ≤ 16
    rotate_left
    · have d1 : decide (c ≤ 16) = false := decide_eq_false t1
      have HF : Hid (kidsS 12 c n = false) := by show _ = _; unfold kidsS; rw [if_pos rfl, decide_eq_true t0, decide_eq_false t1]; simp
      go_enter Tryz.func103, Tryz.ntmps103
      go_wp2_with fail
      go_ret
      exact ⟨by rw [HF.out]; first | done | rfl | (simp; done) | (simp; omega), (HB.out _)⟩
    by_cases t2 : 1 ≤ (n : Int)
    rotate_left
    · have d2 : decide (1 ≤ (n : Int)) = false := decide_eq_false t2
      have HF : Hid (kidsS 12 c n = false) := by show _ = _; unfold kidsS; rw [if_pos rfl, decide_eq_true t0, decide_eq_true t1, decide_eq_false t2]; simp
      go_enter Tryz.func103, Tryz.ntmps103
      go_wp2_with fail
      go_ret
      exact ⟨by rw [HF.out]; first | done | rfl | (simp; done) | (simp; omega), (HB.out _)⟩
    by_cases t3 : (n : Int) ≤ 256
    rotate_left
    · have d3 : decide ((n : Int) ≤ 256) = false := decide_eq_false t3
      have HF : Hid (kidsS 12 c n = false) := by show _ = _; unfold kidsS; rw [if_pos rfl, decide_eq_true t0, decide_eq_true t1, decide_eq_true t2, decide_eq_false t3]; simp
      go_enter Tryz.func103, Tryz.ntmps103
      go_wp2_with fail
      go_ret
      exact ⟨by rw [HF.out]; first | done | rfl | (simp; done) | (simp; omega), (HB.out _)⟩
    have HF : Hid (kidsS 12 c n = ((n : Int) % c == 0)) := by show _ = _; unfold kidsS; rw [if_pos rfl, decide_eq_true t0, decide_eq_true t1, decide_eq_true t2, decide_eq_true t3]; rfl
    go_enter Tryz.func103, Tryz.ntmps103
    go_wp2_with fail
    go_ret
    exact ⟨by rw [HF.out]; first | done | rfl | (simp; done) | (simp; omega), (HB.out _)⟩
  have e12 : (k == 12) = false := by simpa using k12
  by_cases hc : c = 0
  rotate_left
  · have ec : (c != 0) = true := by simpa using hc
    have HF : Hid (kidsS k c n = false) := by show _ = _; unfold kidsS; rw [if_neg k12, if_pos hc]
    clear hc k12
    go_enter Tryz.func103, Tryz.ntmps103
    go_wp2_with fail
    go_ret
    exact ⟨by rw [HF.out]; first | done | rfl | (simp; done) | (simp; omega), (HB.out _)⟩
  subst hc
  by_cases k1 : k = 1
  · subst k1
    clear e12 k12
    have HF : Hid (kidsS 1 0 n = decide ((n : Int) ≤ 200)) := by show _ = _; unfold kidsS; simp
    go_enter Tryz.func103, Tryz.ntmps103
    go_wp2_with fail
    go_ret
    exact ⟨by rw [HF.out]; first | done | rfl | (simp; done) | (simp; omega), (HB.out _)⟩
  have e1 : (k == 1) = false := by simpa using k1
  by_cases k2 : k = 2
  · subst k2
    clear e12 k12 e1 k1
    have HF : Hid (kidsS 2 0 n = ((n : Int) == 0)) := by show _ = _; unfold kidsS; simp
    go_enter Tryz.func103, Tryz.ntmps103
    go_wp2_with fail
    go_ret
    exact ⟨by rw [HF.out]; first | done | rfl | (simp; done) | (simp; omega), (HB.out _)⟩
  have e2 : (k == 2) = false := by simpa using k2
  by_cases k3 : k = 3
  · subst k3
    clear e12 k12 e1 k1 e2 k2
    have HF : Hid (kidsS 3 0 n = ((n : Int) == 0)) := by show _ = _; unfold kidsS; simp
    go_enter Tryz.func103, Tryz.ntmps103
    go_wp2_with fail
    go_ret
    exact ⟨by rw [HF.out]; first | done | rfl | (simp; done) | (simp; omega), (HB.out _)⟩
  have e3 : (k == 3) = false := by simpa using k3
  by_cases k4 : k = 4
  · subst k4
    clear e12 k12 e1 k1 e2 k2 e3 k3
    have HF : Hid (kidsS 4 0 n = ((n : Int) == 0)) := by show _ = _; unfold kidsS; simp
    go_enter Tryz.func103, Tryz.ntmps103
    go_wp2_with fail
    go_ret
    exact ⟨by rw [HF.out]; first | done | rfl | (simp; done) | (simp; omega), (HB.out _)⟩
  have e4 : (k == 4) = false := by simpa using k4
  by_cases k5 : k = 5
  · subst k5
    clear e12 k12 e1 k1 e2 k2 e3 k3 e4 k4
    have HF : Hid (kidsS 5 0 n = ((n : Int) == 2)) := by show _ = _; unfold kidsS; simp
    go_enter Tryz.func103, Tryz.ntmps103
    go_wp2_with fail
    go_ret
    exact ⟨by rw [HF.out]; first | done | rfl | (simp; done) | (simp; omega), (HB.out _)⟩
  have e5 : (k == 5) = false := by simpa using k5
  by_cases k6 : k = 6
  · subst k6
    clear e12 k12 e1 k1 e2 k2 e3 k3 e4 k4 e5 k5
    have HF : Hid (kidsS 6 0 n = ((n : Int) == 2)) := by show _ = _; unfold kidsS; simp
    go_enter Tryz.func103, Tryz.ntmps103
    go_wp2_with fail
    go_ret
    exact ⟨by rw [HF.out]; first | done | rfl | (simp; done) | (simp; omega), (HB.out _)⟩
  have e6 : (k == 6) = false := by simpa using k6
  by_cases k7 : k = 7
  · subst k7
    clear e12 k12 e1 k1 e2 k2 e3 k3 e4 k4 e5 k5 e6 k6
    have HF : Hid (kidsS 7 0 n = ((n : Int) == 2)) := by show _ = _; unfold kidsS; simp
    go_enter Tryz.func103, Tryz.ntmps103
    go_wp2_with fail
    go_ret
    exact ⟨by rw [HF.out]; first | done | rfl | (simp; done) | (simp; omega), (HB.out _)⟩
  have e7 : (k == 7) = false := by simpa using k7
  by_cases k8 : k = 8
  · subst k8
    clear e12 k12 e1 k1 e2 k2 e3 k3 e4 k4 e5 k5 e6 k6 e7 k7
    have HF : Hid (kidsS 8 0 n = ((n : Int) == 2)) := by show _ = _; unfold kidsS; simp
    go_enter Tryz.func103, Tryz.ntmps103
    go_wp2_with fail
    go_ret
    exact ⟨by rw [HF.out]; first | done | rfl | (simp; done) | (simp; omega), (HB.out _)⟩
  have e8 : (k == 8) = false := by simpa using k8
  by_cases k9 : k = 9
  · subst k9
    clear e12 k12 e1 k1 e2 k2 e3 k3 e4 k4 e5 k5 e6 k6 e7 k7 e8 k8
    have HF : Hid (kidsS 9 0 n = ((n : Int) == 3)) := by show _ = _; unfold kidsS; simp
    go_enter Tryz.func103, Tryz.ntmps103
    go_wp2_with fail
    go_ret
    exact ⟨by rw [HF.out]; first | done | rfl | (simp; done) | (simp; omega), (HB.out _)⟩
  have e9 : (k == 9) = false := by simpa using k9
  by_cases k10 : k = 10
  · subst k10
    clear e12 k12 e1 k1 e2 k2 e3 k3 e4 k4 e5 k5 e6 k6 e7 k7 e8 k8 e9 k9
    have HF : Hid (kidsS 10 0 n = ((n : Int) == 1)) := by show _ = _; unfold kidsS; simp
    go_enter Tryz.func103, Tryz.ntmps103
    go_wp2_with fail
    go_ret
    exact ⟨by rw [HF.out]; first | done | rfl | (simp; done) | (simp; omega), (HB.out _)⟩
  have e10 : (k == 10) = false := by simpa using k10
  by_cases k11 : k = 11
  · subst k11
    clear e12 k12 e1 k1 e2 k2 e3 k3 e4 k4 e5 k5 e6 k6 e7 k7 e8 k8 e9 k9 e10 k10
    have HF : Hid (kidsS 11 0 n = ((n : Int) == 1)) := by show _ = _; unfold kidsS; simp
    go_enter Tryz.func103, Tryz.ntmps103
    go_wp2_with fail
    go_ret
    exact ⟨by rw [HF.out]; first | done | rfl | (simp; done) | (simp; omega), (HB.out _)⟩
  have e11 : (k == 11) = false := by simpa using k11
  have HF : Hid (kidsS k 0 n = false) := by show _ = _; unfold kidsS; simp [k12, k1, k2, k3, k4, k5, k6, k7, k8, k9, k10, k11]
  clear k12 k1 k2 k3 k4 k5 k6 k7 k8 k9 k10 k11
  go_enter Tryz.func103, Tryz.ntmps103
  go_wp2_with fail
  go_ret
  exact ⟨by rw [HF.out]; first | done | rfl | (simp; done) | (simp; omega), (HB.out _)⟩
end Go.Proofs.YtmahiejfniaahaaGreatDoor
set_option linter.unusedVariables false
set_option linter.unusedSimpArgs false
set_option maxRecDepth 100000
namespace Go.Proofs.YtmahiejfniaahaaGreatDoor
open Go.RowKit
theorem drew2 (w : World) (a b : Nat) : ∃ n, (w.drewN a).drewN b = w.drewN n := by simp only [World.drewN_drewN]; exact ⟨_, rfl⟩
set_option maxHeartbeats 4000000 in
theorem own_1 (c : Int) (s : ByteArray) (A : Option Addr) (n cap B g o : Nat) (b : Bool) (w : World) (hn : n ≤ maxLen)
    (c0 : w.cell? ⟨g, o, none⟩ = some (.int .i64 1)) (c1 : w.cell? ⟨g, o + 1, none⟩ = some (.string s)) (c2 : w.cell? ⟨g, o + 2, none⟩ = some (.int .i64 c)) (c3 : w.cell? ⟨g, o + 3, none⟩ = some (.slice A n cap))
    (k1 : w.cell? ⟨B, 4, none⟩ = some (.int .i64 0)) (k2 : w.cell? ⟨B, 5, none⟩ = some (.func (.func 114) #[] #[]))
    (HT : Hid (∀ W, Calls Tryz.prog 114 #[.string s] W fun e w' => e = .returned (.bool b) ∧ ∃ n, w' = W.drewN n)) :
    Calls Tryz.prog 120 #[.pointer (some ⟨B, 0, none⟩), .pointer (some ⟨g, o, none⟩)] w fun e w' => e = .returned (.bool (b && kidsS 1 c n)) ∧ ∃ n, w' = w.drewN n := by
  unfold maxLen at hn
  cases b
  · go_enter Tryz.func120, Tryz.ntmps120
    go_wp2_with fail
    go_quiet (exact Calls.quiet_of (HT.out _))
    go_wp2_with fail
    go_ret
    exact ⟨rfl, _, rfl⟩
  by_cases hc : c = 0
  rotate_left
  · have d0 : (c == 0) = false := by simpa using hc
    have HF : Hid (kidsS 1 c n = false) := by show _ = _; unfold kidsS; rw [if_neg (by decide), if_pos hc]
    clear hc
    go_enter Tryz.func120, Tryz.ntmps120
    go_wp2_with fail
    go_quiet (exact Calls.quiet_of (HT.out _))
    go_wp2_with fail
    go_ret
    exact ⟨by rw [HF.out]; first | done | rfl | (simp; done) | (simp; omega), by first | exact ⟨_, rfl⟩ | exact drew2 _ _ _⟩
  subst hc
  by_cases h2 : (n : Int) ≤ 200
  · have d2 : decide ((n : Int) ≤ 200) = true := decide_eq_true h2
    have HF : Hid (kidsS 1 0 n = true) := by show _ = _; unfold kidsS; simp; omega
    go_enter Tryz.func120, Tryz.ntmps120
    go_wp2_with fail
    go_quiet (exact Calls.quiet_of (HT.out _))
    go_wp2_with fail
    go_ret
    exact ⟨by rw [HF.out]; first | done | rfl | (simp; done) | (simp; omega), by first | exact ⟨_, rfl⟩ | exact drew2 _ _ _⟩
  · have d2 : decide ((n : Int) ≤ 200) = false := decide_eq_false h2
    have HF : Hid (kidsS 1 0 n = false) := by show _ = _; unfold kidsS; simp; omega
    go_enter Tryz.func120, Tryz.ntmps120
    go_wp2_with fail
    go_quiet (exact Calls.quiet_of (HT.out _))
    go_wp2_with fail
    go_ret
    exact ⟨by rw [HF.out]; first | done | rfl | (simp; done) | (simp; omega), by first | exact ⟨_, rfl⟩ | exact drew2 _ _ _⟩
set_option maxHeartbeats 4000000 in
theorem own_gen (k f : Nat) (q : Int) (hk : Hid (2 ≤ k ∧ k ≤ 11)) (HK : Hid (∀ n : Nat, kidsS k 0 n = ((n : Int) == q))) (he : ∀ args w, (callFunc f args).run Tryz.prog w = .ok (.enter f args) w) (x1 : 1 ≤ (k : Int)) (x2 : (k : Int) ≤ 12) (x3 : (k : Int) < 13) (x4 : ((k : Int) == 1) = false) (x5 : ((k : Int) == 12) = false) (x6 : k < 13) (x7 : (0 : Int) ≤ (k : Int)) (c : Int) (s : ByteArray) (A : Option Addr) (n cap B g o : Nat) (b : Bool) (w : World) (hn : n ≤ maxLen)
    (c0 : w.cell? ⟨g, o, none⟩ = some (.int .i64 (k : Int))) (c1 : w.cell? ⟨g, o + 1, none⟩ = some (.string s)) (c2 : w.cell? ⟨g, o + 2, none⟩ = some (.int .i64 c)) (c3 : w.cell? ⟨g, o + 3, none⟩ = some (.slice A n cap))
    (k1 : w.cell? ⟨B, k * 3 + 1, none⟩ = some (.int .i64 q)) (k2 : w.cell? ⟨B, k * 3 + 2, none⟩ = some (.func (.func f) #[] #[]))
    (HT : Hid (∀ W, Calls Tryz.prog f #[.string s] W fun e w' => e = .returned (.bool b) ∧ ∃ n, w' = W.drewN n)) :
    Calls Tryz.prog 120 #[.pointer (some ⟨B, 0, none⟩), .pointer (some ⟨g, o, none⟩)] w fun e w' => e = .returned (.bool (b && kidsS (k : Int) c n)) ∧ ∃ n, w' = w.drewN n := by
  unfold maxLen at hn
  cases b
  · go_enter Tryz.func120, Tryz.ntmps120
    go_wp2_with fail
    go_quiet (exact Calls.quiet_of (HT.out _))
    go_wp2_with fail
    go_ret
    exact ⟨rfl, _, rfl⟩
  by_cases hc : c = 0
  rotate_left
  · have d0 : (c == 0) = false := by simpa using hc
    have HF : Hid (kidsS (k : Int) c n = false) := by show _ = _; have := hk.out; unfold kidsS; rw [if_neg (by omega), if_pos hc]
    clear hc
    go_enter Tryz.func120, Tryz.ntmps120
    go_wp2_with fail
    go_quiet (exact Calls.quiet_of (HT.out _))
    go_wp2_with fail
    go_quiet (fail)
    go_wp2_with fail
    go_ret
    exact ⟨by rw [HF.out]; first | done | rfl | (simp; done) | (simp; omega), by first | exact ⟨_, rfl⟩ | exact drew2 _ _ _⟩
  subst hc
  cases d2 : ((n : Int) == q)
  · have HF : Hid (kidsS (k : Int) 0 n = false) := by show _ = _; rw [HK.out, d2]
    go_enter Tryz.func120, Tryz.ntmps120
    go_wp2_with fail
    go_quiet (exact Calls.quiet_of (HT.out _))
    go_wp2_with fail
    go_quiet (fail)
    go_wp2_with fail
    go_ret
    exact ⟨by rw [HF.out]; first | done | rfl | (simp; done) | (simp; omega), by first | exact ⟨_, rfl⟩ | exact drew2 _ _ _⟩
  · have HF : Hid (kidsS (k : Int) 0 n = true) := by show _ = _; rw [HK.out, d2]
    go_enter Tryz.func120, Tryz.ntmps120
    go_wp2_with fail
    go_quiet (exact Calls.quiet_of (HT.out _))
    go_wp2_with fail
    go_quiet (fail)
    go_wp2_with fail
    go_ret
    exact ⟨by rw [HF.out]; first | done | rfl | (simp; done) | (simp; omega), by first | exact ⟨_, rfl⟩ | exact drew2 _ _ _⟩
end Go.Proofs.YtmahiejfniaahaaGreatDoor
set_option linter.unusedVariables false
set_option linter.unusedSimpArgs false
set_option maxRecDepth 100000
namespace Go.Proofs.YtmahiejfniaahaaGreatDoor
open Go.RowKit
theorem drew2m (w : World) (a b : Nat) : ∃ n, (w.drewN a).drewN b = w.drewN n := by simp only [World.drewN_drewN]; exact ⟨_, rfl⟩
set_option maxHeartbeats 4000000 in
theorem own_12 (c : Int) (s : ByteArray) (A : Option Addr) (n cap B g o : Nat) (b : Bool) (w : World) (hn : n ≤ maxLen)
    (c0 : w.cell? ⟨g, o, none⟩ = some (.int .i64 12)) (c1 : w.cell? ⟨g, o + 1, none⟩ = some (.string s)) (c2 : w.cell? ⟨g, o + 2, none⟩ = some (.int .i64 c)) (c3 : w.cell? ⟨g, o + 3, none⟩ = some (.slice A n cap))
    (k1 : w.cell? ⟨B, 37, none⟩ = some (.int .i64 0)) (k2 : w.cell? ⟨B, 38, none⟩ = some (.func (.func 114) #[] #[]))
    (HT : Hid (∀ W, Calls Tryz.prog 114 #[.string s] W fun e w' => e = .returned (.bool b) ∧ ∃ n, w' = W.drewN n)) :
    Calls Tryz.prog 120 #[.pointer (some ⟨B, 0, none⟩), .pointer (some ⟨g, o, none⟩)] w fun e w' => e = .returned (.bool (b && kidsS 12 c n)) ∧ ∃ n, w' = w.drewN n := by
  unfold maxLen at hn
  cases b
  · go_enter Tryz.func120, Tryz.ntmps120
    go_wp2_with fail
    go_quiet (exact Calls.quiet_of (HT.out _))
    go_wp2_with fail
    go_ret
    exact ⟨rfl, _, rfl⟩
  by_cases t0 : 1 ≤ c
  rotate_left
  · have d0 : decide (1 ≤ c) = false := decide_eq_false t0
    have HF : Hid (kidsS 12 c n = false) := by show _ = _; unfold kidsS; rw [if_pos rfl, decide_eq_false t0]; simp
    go_enter Tryz.func120, Tryz.ntmps120
    go_wp2_with fail
    go_quiet (exact Calls.quiet_of (HT.out _))
    go_wp2_with fail
    go_quiet (fail)
    go_wp2_with fail
    go_ret
    exact ⟨by rw [HF.out]; first | done | rfl | (simp; done) | (simp; omega), by first | exact ⟨_, rfl⟩ | exact drew2m _ _ _⟩
  by_cases t1 : c ≤ 16
  rotate_left
  · have d1 : decide (c ≤ 16) = false := decide_eq_false t1
    have HF : Hid (kidsS 12 c n = false) := by show _ = _; unfold kidsS; rw [if_pos rfl, decide_eq_true t0, decide_eq_false t1]; simp
    go_enter Tryz.func120, Tryz.ntmps120
    go_wp2_with fail
    go_quiet (exact Calls.quiet_of (HT.out _))
    go_wp2_with fail
    go_quiet (fail)
    go_wp2_with fail
    go_ret
    exact ⟨by rw [HF.out]; first | done | rfl | (simp; done) | (simp; omega), by first | exact ⟨_, rfl⟩ | exact drew2m _ _ _⟩
  by_cases t2 : 1 ≤ (n : Int)
  rotate_left
  · have d2 : decide (1 ≤ (n : Int)) = false := decide_eq_false t2
    have HF : Hid (kidsS 12 c n = false) := by show _ = _; unfold kidsS; rw [if_pos rfl, decide_eq_true t0, decide_eq_true t1, decide_eq_false t2]; simp
    go_enter Tryz.func120, Tryz.ntmps120
    go_wp2_with fail
    go_quiet (exact Calls.quiet_of (HT.out _))
    go_wp2_with fail
    go_quiet (fail)
    go_wp2_with fail
    go_ret
    exact ⟨by rw [HF.out]; first | done | rfl | (simp; done) | (simp; omega), by first | exact ⟨_, rfl⟩ | exact drew2m _ _ _⟩
  by_cases t3 : (n : Int) ≤ 256
  rotate_left
  · have d3 : decide ((n : Int) ≤ 256) = false := decide_eq_false t3
    have HF : Hid (kidsS 12 c n = false) := by show _ = _; unfold kidsS; rw [if_pos rfl, decide_eq_true t0, decide_eq_true t1, decide_eq_true t2, decide_eq_false t3]; simp
    go_enter Tryz.func120, Tryz.ntmps120
    go_wp2_with fail
    go_quiet (exact Calls.quiet_of (HT.out _))
    go_wp2_with fail
    go_quiet (fail)
    go_wp2_with fail
    go_ret
    exact ⟨by rw [HF.out]; first | done | rfl | (simp; done) | (simp; omega), by first | exact ⟨_, rfl⟩ | exact drew2m _ _ _⟩
  have c9 : c ≠ 0 := by omega
  have ht : (n : Int).tmod c = (n : Int) % c := Int.tmod_eq_emod_of_nonneg (by omega)
  have HF0 : Hid (kidsS 12 c n = ((n : Int) % c == 0)) := by show _ = _; unfold kidsS; rw [if_pos rfl, decide_eq_true t0, decide_eq_true t1, decide_eq_true t2, decide_eq_true t3]; rfl
  cases hm : ((n : Int) % c == 0)
  all_goals
    have hm2 : ((n : Int).tmod c == 0) = _ := (congrArg (· == 0) ht).trans hm
    have HF := hid (HF0.out.trans hm)
    clear ht
    go_enter Tryz.func120, Tryz.ntmps120
    go_wp2_with fail
    go_quiet (exact Calls.quiet_of (HT.out _))
    go_wp2_with fail
    go_quiet (fail)
    go_wp2_with fail
    go_ret
    exact ⟨by rw [HF.out]; first | done | rfl | (simp; done) | (simp; omega), by first | exact ⟨_, rfl⟩ | exact drew2m _ _ _⟩
end Go.Proofs.YtmahiejfniaahaaGreatDoor
set_option linter.unusedVariables false
set_option linter.unusedSimpArgs false
set_option maxRecDepth 100000
namespace Go.Proofs.YtmahiejfniaahaaGreatDoor
open Go.RowKit Go.Shelf
def Cells (w : World) (B : Nat) : Prop :=
  (w.cell? ⟨B, 4, none⟩ = some (.int .i64 0) ∧ w.cell? ⟨B, 5, none⟩ = some (.func (.func 114) #[] #[])) ∧
  (w.cell? ⟨B, 7, none⟩ = some (.int .i64 0) ∧ w.cell? ⟨B, 8, none⟩ = some (.func (.func 115) #[] #[])) ∧
  (w.cell? ⟨B, 10, none⟩ = some (.int .i64 0) ∧ w.cell? ⟨B, 11, none⟩ = some (.func (.func 116) #[] #[])) ∧
  (w.cell? ⟨B, 13, none⟩ = some (.int .i64 0) ∧ w.cell? ⟨B, 14, none⟩ = some (.func (.func 117) #[] #[])) ∧
  (w.cell? ⟨B, 16, none⟩ = some (.int .i64 2) ∧ w.cell? ⟨B, 17, none⟩ = some (.func (.func 114) #[] #[])) ∧
  (w.cell? ⟨B, 19, none⟩ = some (.int .i64 2) ∧ w.cell? ⟨B, 20, none⟩ = some (.func (.func 114) #[] #[])) ∧
  (w.cell? ⟨B, 22, none⟩ = some (.int .i64 2) ∧ w.cell? ⟨B, 23, none⟩ = some (.func (.func 114) #[] #[])) ∧
  (w.cell? ⟨B, 25, none⟩ = some (.int .i64 2) ∧ w.cell? ⟨B, 26, none⟩ = some (.func (.func 114) #[] #[])) ∧
  (w.cell? ⟨B, 28, none⟩ = some (.int .i64 3) ∧ w.cell? ⟨B, 29, none⟩ = some (.func (.func 114) #[] #[])) ∧
  (w.cell? ⟨B, 31, none⟩ = some (.int .i64 1) ∧ w.cell? ⟨B, 32, none⟩ = some (.func (.func 118) #[] #[])) ∧
  (w.cell? ⟨B, 34, none⟩ = some (.int .i64 1) ∧ w.cell? ⟨B, 35, none⟩ = some (.func (.func 119) #[] #[])) ∧
  (w.cell? ⟨B, 37, none⟩ = some (.int .i64 0) ∧ w.cell? ⟨B, 38, none⟩ = some (.func (.func 114) #[] #[]))
theorem same_dn {P : Program} {f : FuncId} {args : Array Value} {W : World} {v : Value} (h : Calls P f args W fun e w' => e = .returned v ∧ W = w') : Calls P f args W fun e w' => e = .returned v ∧ ∃ n, w' = W.drewN n :=
  h.mono fun e w' ⟨h1, h2⟩ => ⟨h1, 0, by subst h2; rfl⟩
theorem kidsS_out (k c : Int) (n : Nat) (h : k < 1 ∨ 12 < k) : kidsS k c n = false := by
  unfold kidsS
  rw [if_neg (by omega)]
  split
  · rfl
  · rw [if_neg (by omega), if_neg (by omega), if_neg (by omega), if_neg (by omega), if_neg (by omega)]
set_option maxHeartbeats 4000000 in
theorem own_any (k c : Int) (s : ByteArray) (A : Option Addr) (n cap B g o : Nat) (w : World) (hn : n ≤ maxLen) (hs : s.size ≤ maxLen)
    (c0 : w.cell? ⟨g, o, none⟩ = some (.int .i64 k)) (c1 : w.cell? ⟨g, o + 1, none⟩ = some (.string s)) (c2 : w.cell? ⟨g, o + 2, none⟩ = some (.int .i64 c)) (c3 : w.cell? ⟨g, o + 3, none⟩ = some (.slice A n cap))
    (hK : Cells w B) :
    Calls Tryz.prog 120 #[.pointer (some ⟨B, 0, none⟩), .pointer (some ⟨g, o, none⟩)] w fun e w' => e = .returned (.bool (textS k s && kidsS k c n)) ∧ ∃ n, w' = w.drewN n := by
  by_cases h1 : k < 1
  · rw [kidsS_out k c n (.inl h1), Bool.and_false]
    have d1 : decide (k < 1) = true := decide_eq_true h1
    clear hK
    go_enter Tryz.func120, Tryz.ntmps120
    go_wp2_with fail
    go_quiet (fail)
    go_wp2_with fail
    go_ret
    exact ⟨rfl, _, rfl⟩
  by_cases h2 : 12 < k
  · rw [kidsS_out k c n (.inr h2), Bool.and_false]
    have d1 : decide (k < 1) = false := decide_eq_false h1
    have d2 : decide (12 < k) = true := decide_eq_true h2
    clear hK
    go_enter Tryz.func120, Tryz.ntmps120
    go_wp2_with fail
    go_quiet (fail)
    go_wp2_with fail
    go_ret
    exact ⟨rfl, _, rfl⟩
  have hk : k = 1 ∨ k = 2 ∨ k = 3 ∨ k = 4 ∨ k = 5 ∨ k = 6 ∨ k = 7 ∨ k = 8 ∨ k = 9 ∨ k = 10 ∨ k = 11 ∨ k = 12 := by omega
  obtain ⟨⟨a1, b1⟩, ⟨a2, b2⟩, ⟨a3, b3⟩, ⟨a4, b4⟩, ⟨a5, b5⟩, ⟨a6, b6⟩, ⟨a7, b7⟩, ⟨a8, b8⟩, ⟨a9, b9⟩, ⟨a10, b10⟩, ⟨a11, b11⟩, ⟨a12, b12⟩⟩ := hK
  rcases hk with rfl | rfl | rfl | rfl | rfl | rfl | rfl | rfl | rfl | rfl | rfl | rfl
  · exact own_1 c s A n cap B g o (textS 1 s) w hn c0 c1 c2 c3 a1 b1 (hid fun W => same_dn (empty_q s W))
  · exact own_gen 2 115 0 (by show _ ∧ _; omega) (hid fun n => by unfold kidsS; simp) (enters_of Tryz.func115 (by kernel_rfl) rfl) (by decide) (by decide) (by decide) (by decide) (by decide) (by decide) (by decide) c s A n cap B g o (textS 2 s) w hn c0 c1 c2 c3 a2 b2 (hid fun W => same_dn (nSymbol_q s W hs))
  · exact own_gen 3 116 0 (by show _ ∧ _; omega) (hid fun n => by unfold kidsS; simp) (enters_of Tryz.func116 (by kernel_rfl) rfl) (by decide) (by decide) (by decide) (by decide) (by decide) (by decide) (by decide) c s A n cap B g o (textS 3 s) w hn c0 c1 c2 c3 a3 b3 (hid fun W => nNumber_q s W hs)
  · exact own_gen 4 117 0 (by show _ ∧ _; omega) (hid fun n => by unfold kidsS; simp) (enters_of Tryz.func117 (by kernel_rfl) rfl) (by decide) (by decide) (by decide) (by decide) (by decide) (by decide) (by decide) c s A n cap B g o (textS 4 s) w hn c0 c1 c2 c3 a4 b4 (hid fun W => same_dn (plain_q s W hs))
  · exact own_gen 5 114 2 (by show _ ∧ _; omega) (hid fun n => by unfold kidsS; simp) (enters_of Tryz.func114 (by kernel_rfl) rfl) (by decide) (by decide) (by decide) (by decide) (by decide) (by decide) (by decide) c s A n cap B g o (textS 5 s) w hn c0 c1 c2 c3 a5 b5 (hid fun W => same_dn (empty_q s W))
  · exact own_gen 6 114 2 (by show _ ∧ _; omega) (hid fun n => by unfold kidsS; simp) (enters_of Tryz.func114 (by kernel_rfl) rfl) (by decide) (by decide) (by decide) (by decide) (by decide) (by decide) (by decide) c s A n cap B g o (textS 6 s) w hn c0 c1 c2 c3 a6 b6 (hid fun W => same_dn (empty_q s W))
  · exact own_gen 7 114 2 (by show _ ∧ _; omega) (hid fun n => by unfold kidsS; simp) (enters_of Tryz.func114 (by kernel_rfl) rfl) (by decide) (by decide) (by decide) (by decide) (by decide) (by decide) (by decide) c s A n cap B g o (textS 7 s) w hn c0 c1 c2 c3 a7 b7 (hid fun W => same_dn (empty_q s W))
  · exact own_gen 8 114 2 (by show _ ∧ _; omega) (hid fun n => by unfold kidsS; simp) (enters_of Tryz.func114 (by kernel_rfl) rfl) (by decide) (by decide) (by decide) (by decide) (by decide) (by decide) (by decide) c s A n cap B g o (textS 8 s) w hn c0 c1 c2 c3 a8 b8 (hid fun W => same_dn (empty_q s W))
  · exact own_gen 9 114 3 (by show _ ∧ _; omega) (hid fun n => by unfold kidsS; simp) (enters_of Tryz.func114 (by kernel_rfl) rfl) (by decide) (by decide) (by decide) (by decide) (by decide) (by decide) (by decide) c s A n cap B g o (textS 9 s) w hn c0 c1 c2 c3 a9 b9 (hid fun W => same_dn (empty_q s W))
  · exact own_gen 10 118 1 (by show _ ∧ _; omega) (hid fun n => by unfold kidsS; simp) (enters_of Tryz.func118 (by kernel_rfl) rfl) (by decide) (by decide) (by decide) (by decide) (by decide) (by decide) (by decide) c s A n cap B g o (textS 10 s) w hn c0 c1 c2 c3 a10 b10 (hid fun W => same_dn (accent_q s W))
  · exact own_gen 11 119 1 (by show _ ∧ _; omega) (hid fun n => by unfold kidsS; simp) (enters_of Tryz.func119 (by kernel_rfl) rfl) (by decide) (by decide) (by decide) (by decide) (by decide) (by decide) (by decide) c s A n cap B g o (textS 11 s) w hn c0 c1 c2 c3 a11 b11 (hid fun W => same_dn (fence_q s W hs))
  · exact own_12 c s A n cap B g o (textS 12 s) w hn c0 c1 c2 c3 a12 b12 (hid fun W => same_dn (empty_q s W))
end Go.Proofs.YtmahiejfniaahaaGreatDoor
