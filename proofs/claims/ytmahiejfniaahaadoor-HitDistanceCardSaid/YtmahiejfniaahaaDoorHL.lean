/- Texts put together: HitP, HitC. -/
import Derived.Test.YtmahiejfniaahaaDoorHC
import Derived.Test.YtmahiejfniaahaaDoorGQ
import Derived.Laws.EntriesVeiled
/- Plain: the distance of a point from a caret; the nearest caret. Written by wip/genhit.py. -/
set_option linter.unusedVariables false
set_option linter.unusedSimpArgs false
set_option maxRecDepth 100000
namespace Go.Proofs.YtmahiejfniaahaaDoor
open Go.RowKit

/-- How far a point is from a caret. -/
def distS (d : CarD) (x y : Int) : Int := max (x - d.x) (d.x - x) + max (max 0 (y - d.top)) (d.bottom - y)
/-- The comparison of two carets. -/
def hitC (x y : Int) (d e : CarD) : Int := if icmp (distS d x y) (distS e x y) ≠ 0 then icmp (distS d x y) (distS e x y) else icmp (d.top - d.bottom) (e.top - e.bottom)
def hitLt (x y : Int) (d e : CarD) : Bool := decide (distS d x y < distS e x y) || (decide (distS d x y = distS e x y) && decide (d.top - d.bottom < e.top - e.bottom))
theorem hitC_lt (x y : Int) (d e : CarD) : decide (hitC x y d e < 0) = hitLt x y d e := by
  unfold hitC hitLt icmp
  by_cases h1 : distS d x y < distS e x y
  · simp [h1]
  · by_cases h2 : distS e x y < distS d x y
    · have h3 : ¬ distS d x y = distS e x y := by omega
      simp [h1, h2, h3]
    · have h3 : distS d x y = distS e x y := by omega
      rw [h3]
      by_cases h4 : d.top - d.bottom < e.top - e.bottom
      · simp [h4]
      · by_cases h5 : e.top - e.bottom < d.top - d.bottom <;> simp [h4, h5]
/-- The best of the first k things of a list: the earliest that is less than no other one, by steps. -/
def bestK {α : Type} (lt : α → α → Bool) (z : α) (ds : List α) : Nat → Nat
  | 0 => 0
  | k + 1 => if lt (ds.getD k z) (ds.getD (bestK lt z ds k) z) = true then k else bestK lt z ds k
theorem bestK_lt {α : Type} (lt : α → α → Bool) (z : α) (ds : List α) : ∀ k, bestK lt z ds k < k ∨ bestK lt z ds k = 0
  | 0 => .inr rfl
  | k + 1 => by
    rw [bestK]
    split
    · exact .inl (Nat.lt_succ_self k)
    · rcases bestK_lt lt z ds k with h | h
      · exact .inl (Nat.lt_succ_of_lt h)
      · exact .inr h
theorem hitLt_self (x y : Int) (d : CarD) : hitLt x y d d = false := by simp [hitLt]
theorem bestK_one (x y : Int) (ds : List CarD) (z : CarD) : bestK (hitLt x y) z ds 1 = 0 := by
  rw [bestK, bestK, hitLt_self]
  rfl
structure CarD.Sm (d : CarD) : Prop where
  x : Go.Proofs.YtmahiejfniaahaaDoor.Sm d.x
  top : Go.Proofs.YtmahiejfniaahaaDoor.Sm d.top
  bottom : Go.Proofs.YtmahiejfniaahaaDoor.Sm d.bottom
theorem CarD.Sm.zero : zeroC.Sm := ⟨by simp [zeroC, Go.Proofs.YtmahiejfniaahaaDoor.Sm], by simp [zeroC, Go.Proofs.YtmahiejfniaahaaDoor.Sm], by simp [zeroC, Go.Proofs.YtmahiejfniaahaaDoor.Sm]⟩
theorem distS_bd {d : CarD} {x y : Int} (h : d.Sm) (hx : lenOk x = true) (hy : lenOk y = true) : -1125899906842624 ≤ distS d x y ∧ distS d x y ≤ 1125899906842624 := by
  obtain ⟨h1, h2, h3⟩ := h
  unfold Go.Proofs.YtmahiejfniaahaaDoor.Sm at h1 h2 h3
  simp only [lenOk, decide_eq_true_eq] at hx hy
  unfold distS
  omega
/-- What hit.At answers. -/
def hitR (t : Tree) (b : Bx) (x y : Int) : List Int × Int :=
  if (validS t && validB b) = false then ([], 1)
  else if (lenOk x && lenOk y) = false then ([], 2)
  else match carsR t b with
    | (l, er) => if er = 0 then ((l.getD (bestK (hitLt x y) zeroC l l.length) zeroC).pos, 0) else ([], er)
end Go.Proofs.YtmahiejfniaahaaDoor
/- Plain: what hit.At answers. Written by wip/genhit.py. -/
set_option linter.unusedVariables false
set_option linter.unusedSimpArgs false
set_option maxRecDepth 100000
namespace Go.Proofs.YtmahiejfniaahaaDoor
open Go.RowKit

theorem carsL_sm (t : Tree) (b : Bx) (hv : validB b = true) : (L : List (List Int)) → (l : List CarD) → (∀ p ∈ L, posIn t p = true) → carsL t b L = some l → ∀ d ∈ l, d.Sm
  | [], l, _, h => by simp [carsL] at h; subst h; simp
  | p :: ps, l, hp, h => by
    rw [carsL] at h
    cases hq : placeP t b p with
    | none => rw [hq] at h; cases h
    | some d =>
      rw [hq] at h
      cases hl : carsL t b ps with
      | none => rw [hl] at h; cases h
      | some l' =>
        rw [hl] at h
        simp only [Option.map_some, Option.some.injEq] at h
        subst h
        intro d' hd'
        rcases List.mem_cons.1 hd' with rfl | hd'
        · obtain ⟨_, a1, a2, a3, _⟩ := placeP_ok hv (hp p (by simp)) hq
          exact ⟨a1, a2, a3⟩
        · exact carsL_sm t b hv ps l' (fun q hq => hp q (by simp [hq])) hl d' hd'
theorem posIn_zero (t : Tree) : posIn t [0] = true := by
  rw [posIn]
  simp
/-- What All answers at a valid tree and box. -/
theorem carsR_cases {t : Tree} {b : Bx} (h : (validS t && validB b) = true) : carsR t b = ([], 8) ∨ ∃ l, carsR t b = (l, 0) ∧ carsL t b (allS [] t) = some l ∧ (∀ d ∈ l, d.Sm) ∧ 0 < l.length := by
  have hv : validB b = true := by cases hh : validB b <;> simp_all
  rw [carsR, if_neg (by simp [h])]
  cases hc : carsL t b (allS [] t) with
  | none => exact .inl rfl
  | some l =>
    refine .inr ⟨l, rfl, rfl, carsL_sm t b hv _ l (fun p hp => mem_all.1 hp) hc, ?_⟩
    rw [carsL_len t b _ l hc]
    exact allS_pos t
theorem hitR_arg {t : Tree} {b : Bx} (x y : Int) (h : (validS t && validB b) = false) : hitR t b x y = ([], 1) := by rw [hitR, if_pos h]
theorem hitR_rng {t : Tree} {b : Bx} {x y : Int} (h : (validS t && validB b) = true) (h2 : (lenOk x && lenOk y) = false) : hitR t b x y = ([], 2) := by rw [hitR, if_neg (by simp [h]), if_pos h2]
theorem hitR_none {t : Tree} {b : Bx} {x y : Int} (h : (validS t && validB b) = true) (h2 : (lenOk x && lenOk y) = true) (h3 : carsR t b = ([], 8)) : hitR t b x y = ([], 8) := by
  rw [hitR, if_neg (by simp [h]), if_neg (by simp [h2]), h3]
  rfl
theorem hitR_some {t : Tree} {b : Bx} {x y : Int} {l : List CarD} (h : (validS t && validB b) = true) (h2 : (lenOk x && lenOk y) = true) (h3 : carsR t b = (l, 0)) : hitR t b x y = ((l.getD (bestK (hitLt x y) zeroC l l.length) zeroC).pos, 0) := by
  rw [hitR, if_neg (by simp [h]), if_neg (by simp [h2]), h3]
  rfl
theorem two_true {a b : Bool} (h1 : a = true) (h2 : b = true) : (a && b) = true := by rw [h1, h2]; rfl
end Go.Proofs.YtmahiejfniaahaaDoor
