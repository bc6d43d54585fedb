/- Texts put together: BoxL, Half, CarP. -/
import Derived.Test.YtmahiejfniaahaaGreatDoorGA
import Derived.Deep.QuietTactic
import Derived.BigQuiet
import Derived.Test.YtmahiejfniaahaaGreatDoorGI
set_option linter.unusedVariables false
set_option linter.unusedSimpArgs false
namespace Go.Proofs.YtmahiejfniaahaaGreatDoor
open Go.RowKit
mutual
def findB (q : Int) (p : List Int) : Bx → Option (Bx × Int × Int)
  | .mk f ks => if f.of_ = q ∧ f.src = p then some (.mk f ks, 0, 0) else findsB q p ks
def findsB (q : Int) (p : List Int) : List Bx → Option (Bx × Int × Int)
  | [] => none
  | k :: ks => match findB q p k with
    | some r => some (r.1, r.2.1 + k.f.x, r.2.2 + k.f.y)
    | none => findsB q p ks
end
mutual
def rowsB : Bx → Int → Int → List (Bx × Int × Int)
  | .mk f ks, x, y => (if f.of_ = 1 then [(.mk f ks, x, y)] else []) ++ rowssB ks x y
def rowssB : List Bx → Int → Int → List (Bx × Int × Int)
  | [], _, _ => []
  | k :: ks, x, y => rowsB k (x + k.f.x) (y + k.f.y) ++ rowssB ks x y
end
def isP (p : List Int) (r : Bx × Int × Int) : Bool := decide (r.1.f.src = p)
def shiftB (x y : Int) (r : Bx × Int × Int) : Bx × Int × Int := (r.1, x + r.2.1, y + r.2.2)
mutual
theorem rows_find (p : List Int) : (b : Bx) → (x y : Int) → (rowsB b x y).find? (isP p) = (findB 1 p b).map (shiftB x y)
  | .mk f ks, x, y => by
    rw [rowsB, findB, List.find?_append, rowss_find p ks x y]
    by_cases h1 : f.of_ = 1
    · by_cases h2 : f.src = p
      · simp [h1, h2, isP, shiftB, Bx.f]
      · simp [h1, h2, isP, Bx.f]
    · simp [h1]
theorem rowss_find (p : List Int) : (ks : List Bx) → (x y : Int) → (rowssB ks x y).find? (isP p) = (findsB 1 p ks).map (shiftB x y)
  | [], x, y => by rw [rowssB, findsB]; rfl
  | k :: ks, x, y => by
    rw [rowssB, findsB, List.find?_append, rows_find p k, rowss_find p ks x y]
    cases findB 1 p k with
    | none => simp
    | some r => simp [shiftB]; exact ⟨by omega, by omega⟩
end
theorem find_snoc (L : List (Bx × Int × Int)) (r : Bx × Int × Int) (p : List Int) : (L ++ [r]).find? (isP p) = match L.find? (isP p) with | some s => some s | none => if r.1.f.src = p then some r else none := by
  rw [List.find?_append]
  cases L.find? (isP p) with
  | some s => rfl
  | none => simp [isP]
end Go.Proofs.YtmahiejfniaahaaGreatDoor
set_option linter.unusedVariables false
set_option linter.unusedSimpArgs false
set_option maxRecDepth 100000
namespace Go.Proofs.YtmahiejfniaahaaGreatDoor
open Go.RowKit
def halfS (n : Int) : Int := if lenOk n = true then (if 0 ≤ n then (n + 1) / 2 else -((1 - n) / 2)) else 0
theorem lenValid_q (n : Int) (w : World) : Calls Tryz.prog 48 #[.int .i64 n] w fun e w' => e = .returned (.bool (lenOk n)) ∧ w = w' := by
  by_cases a : -1073741824 ≤ n
  · have a1 : decide (-1073741824 ≤ n) = true := decide_eq_true a
    by_cases b : n ≤ 1073741824
    · have b1 : decide (n ≤ 1073741824) = true := decide_eq_true b
      have HF : Hid (lenOk n = true) := by show _ = _; simp [lenOk, a, b]
      go_enter Tryz.func48, Tryz.ntmps48
      go_wp2_with fail
      go_ret
      exact ⟨by rw [HF.out]; first | done | rfl | (simp; omega), rfl⟩
    · have b1 : decide (n ≤ 1073741824) = false := decide_eq_false b
      have HF : Hid (lenOk n = false) := by show _ = _; simp [lenOk, b]
      go_enter Tryz.func48, Tryz.ntmps48
      go_wp2_with fail
      go_ret
      exact ⟨by rw [HF.out]; first | done | rfl | (simp; omega), rfl⟩
  · have a1 : decide (-1073741824 ≤ n) = false := decide_eq_false a
    have HF : Hid (lenOk n = false) := by show _ = _; simp [lenOk, a]
    go_enter Tryz.func48, Tryz.ntmps48
    go_wp2_with fail
    go_ret
    exact ⟨by rw [HF.out]; first | done | rfl | (simp; omega), rfl⟩
theorem rLenValid_q (n : Int) (w : World) : Calls Tryz.prog 52 #[.int .i64 n] w fun e w' => e = .returned (.bool (lenOk n)) ∧ w = w' := by
  by_cases a : -1073741824 ≤ n
  · have a1 : decide (-1073741824 ≤ n) = true := decide_eq_true a
    by_cases b : n ≤ 1073741824
    · have b1 : decide (n ≤ 1073741824) = true := decide_eq_true b
      have HF : Hid (lenOk n = true) := by show _ = _; simp [lenOk, a, b]
      go_enter Tryz.func52, Tryz.ntmps52
      go_wp2_with fail
      go_ret
      exact ⟨by rw [HF.out]; first | done | rfl | (simp; omega), rfl⟩
    · have b1 : decide (n ≤ 1073741824) = false := decide_eq_false b
      have HF : Hid (lenOk n = false) := by show _ = _; simp [lenOk, b]
      go_enter Tryz.func52, Tryz.ntmps52
      go_wp2_with fail
      go_ret
      exact ⟨by rw [HF.out]; first | done | rfl | (simp; omega), rfl⟩
  · have a1 : decide (-1073741824 ≤ n) = false := decide_eq_false a
    have HF : Hid (lenOk n = false) := by show _ = _; simp [lenOk, a]
    go_enter Tryz.func52, Tryz.ntmps52
    go_wp2_with fail
    go_ret
    exact ⟨by rw [HF.out]; first | done | rfl | (simp; omega), rfl⟩
theorem quot2_q (n : Int) (w : World) (h0 : -1073741824 ≤ n) (h1 : n ≤ 1073741824) : Calls Tryz.prog 139 #[.int .i64 n, .int .i64 2] w fun e w' => e = .returned (.int .i64 (if 0 ≤ n then (n + 1) / 2 else -((1 - n) / 2))) ∧ ∃ k, w' = w.drewN k := by
  have hc : (∃ m : Int, 0 ≤ m ∧ n = 2 * m) ∨ (∃ m : Int, 0 ≤ m ∧ n = 2 * m + 1) ∨ (∃ m : Int, 1 ≤ m ∧ n = -(2 * m)) ∨ (∃ m : Int, 0 ≤ m ∧ n = -(2 * m + 1)) := by
    by_cases h : 0 ≤ n
    · by_cases h2 : n % 2 = 0
      · exact .inl ⟨n / 2, by omega, by omega⟩
      · exact .inr (.inl ⟨n / 2, by omega, by omega⟩)
    · by_cases h2 : n % 2 = 0
      · exact .inr (.inr (.inl ⟨-n / 2, by omega, by omega⟩))
      · exact .inr (.inr (.inr ⟨(-n) / 2, by omega, by omega⟩))
  have key : ∀ q r R : Int, n.tdiv 2 = q → n.tmod 2 = r → (-1073741824 ≤ q ∧ q ≤ 1073741824) → (r = 0 ∧ R = q ∨ r = 1 ∧ R = q + 1 ∨ r = -1 ∧ R = q - 1) → Calls Tryz.prog 139 #[.int .i64 n, .int .i64 2] w fun e w' => e = .returned (.int .i64 R) ∧ ∃ k, w' = w.drewN k := by
    intro q r R hq hr ⟨hq1, hq2⟩ hR
    have v1 : IntKind.i64.wrap (n.tdiv 2) = q := by rw [hq]; exact IntWalk.i64_in _ (by omega)
    have v2 : IntKind.i64.wrap (n.tmod 2) = r := by rw [hr]; exact IntWalk.i64_in _ (by omega)
    clear h0 h1 hc
    rcases hR with ⟨rfl, rfl⟩ | ⟨rfl, rfl⟩ | ⟨rfl, rfl⟩
    all_goals (
      go_enter Tryz.func139, Tryz.ntmps139
      go_wp2_with fail
      first | done | go_quiet (fail)
      go_wp2_with fail
      go_ret
      exact ⟨rfl, _, rfl⟩)
  rcases hc with ⟨m, hm, rfl⟩ | ⟨m, hm, rfl⟩ | ⟨m, hm, rfl⟩ | ⟨m, hm, rfl⟩
  · exact key m 0 _ (by rw [Int.tdiv_eq_ediv_of_nonneg (by omega)]; omega) (by rw [Int.tmod_eq_emod_of_nonneg (by omega)]; omega) (by omega) (.inl ⟨rfl, by rw [if_pos (by omega)]; omega⟩)
  · exact key m 1 _ (by rw [Int.tdiv_eq_ediv_of_nonneg (by omega)]; omega) (by rw [Int.tmod_eq_emod_of_nonneg (by omega)]; omega) (by omega) (.inr (.inl ⟨rfl, by rw [if_pos (by omega)]; omega⟩))
  · exact key (-m) 0 _ (by rw [Int.neg_tdiv, Int.tdiv_eq_ediv_of_nonneg (by omega)]; omega) (by rw [Int.neg_tmod, Int.tmod_eq_emod_of_nonneg (by omega)]; omega) (by omega) (.inl ⟨rfl, by rw [if_neg (by omega)]; omega⟩)
  · exact key (-m) (-1) _ (by rw [Int.neg_tdiv, Int.tdiv_eq_ediv_of_nonneg (by omega)]; omega) (by rw [Int.neg_tmod, Int.tmod_eq_emod_of_nonneg (by omega)]; omega) (by omega) (.inr (.inr ⟨rfl, by rw [if_neg (by omega)]; omega⟩))
theorem half_q (n : Int) (w : World) : Calls Tryz.prog 105 #[.int .i64 n] w fun e w' => e = .returned (.int .i64 (halfS n)) ∧ ∃ k, w' = w.drewN k := by
  have CV := hid (fun W => lenValid_q n W)
  by_cases h : lenOk n = true
  · have hb : -1073741824 ≤ n ∧ n ≤ 1073741824 := by simpa [lenOk] using h
    have CQ := hid (fun W => quot2_q n W hb.1 hb.2)
    have HF : Hid (halfS n = _) := if_pos h
    rw [h] at CV
    generalize (if 0 ≤ n then (n + 1) / 2 else -((1 - n) / 2)) = R at *
    clear h hb
    go_enter Tryz.func105, Tryz.ntmps105
    go_wp2_with fail
    refine (CV.out _).mono ?_
    rintro e w1 ⟨rfl, rfl⟩
    go_wp2_with fail
    refine (CQ.out _).mono ?_
    rintro e w1 ⟨rfl, k, rfl⟩
    go_wp2_with fail
    go_ret
    exact ⟨by rw [HF.out]; rfl, k, rfl⟩
  · have h' : lenOk n = false := by simpa using h
    have HF : Hid (halfS n = 0) := if_neg h
    rw [h'] at CV
    clear h h'
    go_enter Tryz.func105, Tryz.ntmps105
    go_wp2_with fail
    refine (CV.out _).mono ?_
    rintro e w1 ⟨rfl, rfl⟩
    go_wp2_with fail
    go_ret
    exact ⟨by rw [HF.out]; rfl, 0, rfl⟩
theorem rsize_q (n : Int) (w : World) (h0 : -1073741824 ≤ n) (h1 : n ≤ 1073741824) : Calls Tryz.prog 140 #[.int .i64 n] w fun e w' => e = .returned (.int .i64 (n.natAbs : Int)) ∧ w = w' := by
  by_cases h : n < 0
  · have i0 : decide (n < 0) = true := decide_eq_true h
    have HF : Hid ((n.natAbs : Int) = -n) := by show _ = _; omega
    have v1 : IntKind.i64.wrap (-n) = -n := IntWalk.i64_in _ (by omega)
    go_enter Tryz.func140, Tryz.ntmps140
    go_wp2_with fail
    go_ret
    exact ⟨by rw [HF.out]; rfl, rfl⟩
  · have i0 : decide (n < 0) = false := decide_eq_false h
    have HF : Hid ((n.natAbs : Int) = n) := by show _ = _; omega
    go_enter Tryz.func140, Tryz.ntmps140
    go_wp2_with fail
    go_ret
    exact ⟨by rw [HF.out]; rfl, rfl⟩
theorem round2_q (n : Int) (w : World) (h0 : -1073741824 ≤ n) (h1 : n ≤ 1073741824) : Calls Tryz.prog 110 #[.int .i64 n, .int .i64 2] w fun e w' => e = .returned (.int .i64 (if 0 ≤ n then (n + 1) / 2 else -((1 - n) / 2))) ∧ w = w' := by
  have C1 := hid (fun W => rsize_q n W h0 h1)
  have C2 := hid (fun W => rsize_q 2 W (by omega) (by omega))
  have ha : 0 ≤ (n.natAbs : Int) ∧ (n.natAbs : Int) ≤ 1073741824 := by omega
  have HR : Hid ((if 0 ≤ n then (n + 1) / 2 else -((1 - n) / 2)) = if n < 0 then -((2 * (n.natAbs : Int) + 2) / 4) else (2 * (n.natAbs : Int) + 2) / 4) := by
    show _ = _
    split <;> split <;> omega
  generalize (if 0 ≤ n then (n + 1) / 2 else -((1 - n) / 2)) = R at *
  generalize (n.natAbs : Int) = a at *
  obtain ⟨ha0, ha1⟩ := ha
  have v1 : IntKind.i64.wrap (2 * a) = 2 * a := IntWalk.i64_in _ (by omega)
  have v2 : IntKind.i64.wrap (2 * a + 2) = 2 * a + 2 := IntWalk.i64_in _ (by omega)
  by_cases h : n < 0
  · have i0 : decide (n < 0) = true := decide_eq_true h
    have HF : Hid (R = -((2 * a + 2) / 4)) := by show _ = _; rw [HR.out, if_pos h]
    go_enter Tryz.func110, Tryz.ntmps110
    go_wp2_with fail
    refine (C1.out _).mono ?_
    rintro e w1 ⟨rfl, rfl⟩
    go_wp2_with fail
    refine (C2.out _).mono ?_
    rintro e w1 ⟨rfl, rfl⟩
    go_wp2_with fail
    refine (C2.out _).mono ?_
    rintro e w1 ⟨rfl, rfl⟩
    go_wp2_with fail
    go_ret
    exact ⟨by rw [HF.out]; rfl, rfl⟩
  · have i0 : decide (n < 0) = false := decide_eq_false h
    have HF : Hid (R = (2 * a + 2) / 4) := by show _ = _; rw [HR.out, if_neg h]
    go_enter Tryz.func110, Tryz.ntmps110
    go_wp2_with fail
    refine (C1.out _).mono ?_
    rintro e w1 ⟨rfl, rfl⟩
    go_wp2_with fail
    refine (C2.out _).mono ?_
    rintro e w1 ⟨rfl, rfl⟩
    go_wp2_with fail
    refine (C2.out _).mono ?_
    rintro e w1 ⟨rfl, rfl⟩
    go_wp2_with fail
    go_ret
    exact ⟨by rw [HF.out]; rfl, rfl⟩
theorem rHalf_q (n : Int) (w : World) : Calls Tryz.prog 86 #[.int .i64 n] w fun e w' => e = .returned (.int .i64 (halfS n)) ∧ w = w' := by
  have CV := hid (fun W => rLenValid_q n W)
  by_cases h : lenOk n = true
  · have hb : -1073741824 ≤ n ∧ n ≤ 1073741824 := by simpa [lenOk] using h
    have CQ := hid (fun W => round2_q n W hb.1 hb.2)
    have HF : Hid (halfS n = _) := if_pos h
    rw [h] at CV
    generalize (if 0 ≤ n then (n + 1) / 2 else -((1 - n) / 2)) = R at *
    clear h hb
    go_enter Tryz.func86, Tryz.ntmps86
    go_wp2_with fail
    refine (CV.out _).mono ?_
    rintro e w1 ⟨rfl, rfl⟩
    go_wp2_with fail
    refine (CQ.out _).mono ?_
    rintro e w1 ⟨rfl, rfl⟩
    go_wp2_with fail
    go_ret
    exact ⟨by rw [HF.out]; rfl, rfl⟩
  · have h' : lenOk n = false := by simpa using h
    have HF : Hid (halfS n = 0) := if_neg h
    rw [h'] at CV
    clear h h'
    go_enter Tryz.func86, Tryz.ntmps86
    go_wp2_with fail
    refine (CV.out _).mono ?_
    rintro e w1 ⟨rfl, rfl⟩
    go_wp2_with fail
    go_ret
    exact ⟨by rw [HF.out]; rfl, rfl⟩
end Go.Proofs.YtmahiejfniaahaaGreatDoor
set_option linter.unusedVariables false
set_option linter.unusedSimpArgs false
namespace Go.Proofs.YtmahiejfniaahaaGreatDoor
open Go.RowKit
def kX (ks : List Bx) (k : Nat) : Int := match ks[k]? with | some b => b.f.x | none => 0
def kW (ks : List Bx) (k : Nat) : Int := match ks[k]? with | some b => b.f.w | none => 0
theorem kX_at {ks : List Bx} {k : Nat} (h : k < ks.length) : kX ks k = ks[k].f.x := by unfold kX; rw [List.getElem?_eq_getElem h]
theorem kW_at {ks : List Bx} {k : Nat} (h : k < ks.length) : kW ks k = ks[k].f.w := by unfold kW; rw [List.getElem?_eq_getElem h]
def endS (ks : List Bx) (x : Int) (k : Nat) : Int := x + kX ks k + kW ks k
def atS (b : Bx) (x : Int) (k : Nat) : Int :=
  if b.kids.length = 0 then x + halfS b.f.w
  else if k = 0 then x + kX b.kids 0
  else if k = b.kids.length then endS b.kids x (k - 1)
  else endS b.kids x (k - 1) + halfS (x + kX b.kids k - endS b.kids x (k - 1))
structure CarD where
  pos : List Int
  x : Int
  top : Int
  bottom : Int
def placeS (t : Tree) (b : Bx) (q : List Int) (k : Int) : Option CarD :=
  match rowS t q, findB 1 q b with
  | some r, some f => if f.1.kids.length = r.kids.length then some ⟨q ++ [k], atS f.1 f.2.1 k.toNat, f.2.2 + f.1.f.h, f.2.2 - f.1.f.d⟩ else none
  | _, _ => none
end Go.Proofs.YtmahiejfniaahaaGreatDoor
