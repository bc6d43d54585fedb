/- Plain: a box that becomes a kid of a list: all carets move with it. -/
import Derived.Test.YtmahiejfniaahaaDoorHC
set_option linter.unusedVariables false
set_option linter.unusedSimpArgs false
set_option maxRecDepth 100000
namespace Go.Proofs.YtmahiejfniaahaaDoor
open Go.RowKit

def movF (f : BxF) (x y : Int) : BxF := ⟨f.kind, f.name, f.size, f.w, f.h, f.d, x, y, f.of_, f.src⟩
def movB (b : Bx) (x y : Int) : Bx := .mk (movF b.f x y) b.kids
def lstF : BxF := ⟨3, ⟨#[]⟩, 0, 0, 0, 0, 0, 0, 0, []⟩
def lstB (b : Bx) (x y : Int) : Bx := .mk lstF [movB b x y]
theorem movB_cnt (b : Bx) (x y : Int) : cntB (movB b x y) = cntB b := by cases b; rfl
theorem movB_nest (b : Bx) (x y : Int) : nestB (movB b x y) = nestB b := by cases b; rfl
theorem movB_proper (b : Bx) (x y : Int) (h : properB b = true) (hx : lenOk x = true) (hy : lenOk y = true) : properB (movB b x y) = true := by
  obtain ⟨f, ks⟩ := b
  rw [properB, Bool.and_eq_true] at h
  show properB (.mk (movF f x y) ks) = true
  rw [properB, Bool.and_eq_true]
  refine ⟨?_, h.2⟩
  have h1 := h.1
  unfold ownB at h1 ⊢
  rw [Bool.and_eq_true] at h1 ⊢
  refine ⟨?_, h1.2⟩
  have h2 := h1.1
  simp only [lensOk, List.all_cons, List.all_nil, Bool.and_eq_true, Bool.and_true, movF] at h2 ⊢
  exact ⟨h2.1, h2.2.1, h2.2.2.1, hx, hy⟩
theorem lstB_valid {b : Bx} {x y : Int} (h : validB b = true) (hn : nestB b ≤ 99) (hc : cntB b ≤ 19999) (hx : lenOk x = true) (hy : lenOk y = true) : validB (lstB b x y) = true := by
  unfold validB at h ⊢
  simp only [Bool.and_eq_true, decide_eq_true_eq] at h ⊢
  refine ⟨⟨?_, ?_⟩, ?_⟩
  · show properB (.mk lstF [movB b x y]) = true
    rw [properB, propersB, propersB, movB_proper b x y h.1.1 hx hy]
    show (ownB lstF 1 && (true && true)) = true
    decide +kernel
  · show cntB (.mk lstF [movB b x y]) ≤ _
    rw [cntB, cntsB, cntsB, movB_cnt]
    omega
  · show nestB (.mk lstF [movB b x y]) ≤ _
    rw [nestB, nestsB, nestsB, movB_nest]
    omega
/-- Two rows' boxes that look alike, but for the place. -/
def SameBx (f f' : Bx) : Prop := f'.kids = f.kids ∧ f'.f.w = f.f.w ∧ f'.f.h = f.f.h ∧ f'.f.d = f.f.d
theorem find_lst (q : List Int) (b : Bx) (x y : Int) : (findB 1 q b = none ∧ findB 1 q (lstB b x y) = none) ∨ ∃ f fx fy f', findB 1 q b = some (f, fx, fy) ∧ findB 1 q (lstB b x y) = some (f', fx + x, fy + y) ∧ SameBx f f' := by
  obtain ⟨bf, ks⟩ := b
  have h0 : findB 1 q (lstB (.mk bf ks) x y) = match findB 1 q (.mk (movF bf x y) ks) with | some r => some (r.1, r.2.1 + x, r.2.2 + y) | none => none := by
    show findB 1 q (.mk lstF [.mk (movF bf x y) ks]) = _
    rw [findB, if_neg (by simp [lstF]), findsB, findsB]
    rfl
  rw [h0]
  have e1 : (movF bf x y).of_ = bf.of_ := rfl
  have e2 : (movF bf x y).src = bf.src := rfl
  rw [findB, findB, e1, e2]
  by_cases h : bf.of_ = 1 ∧ bf.src = q
  · rw [if_pos h, if_pos h]
    exact .inr ⟨_, 0, 0, _, rfl, rfl, rfl, rfl, rfl, rfl⟩
  · rw [if_neg h, if_neg h]
    cases findsB 1 q ks with
    | none => exact .inl ⟨rfl, rfl⟩
    | some r => exact .inr ⟨r.1, r.2.1, r.2.2, r.1, rfl, rfl, rfl, rfl, rfl, rfl⟩
theorem atS_lst {f f' : Bx} (h : SameBx f f') (a x : Int) (k : Nat) : atS f' (a + x) k = atS f a k + x := by
  obtain ⟨h1, h2, _, _⟩ := h
  unfold atS
  rw [h1, h2]
  have he : ∀ j, endS f.kids (a + x) j = endS f.kids a j + x := fun j => by unfold endS; omega
  split
  · omega
  · split
    · omega
    · split
      · rw [he]
      · rw [he, show a + x + kX f.kids k - (endS f.kids a (k - 1) + x) = a + kX f.kids k - endS f.kids a (k - 1) by omega]
        omega
def movC (x y : Int) (d : CarD) : CarD := ⟨d.pos, d.x + x, d.top + y, d.bottom + y⟩
theorem placeS_lst (t : Tree) (b : Bx) (x y : Int) (q : List Int) (k : Int) : placeS t (lstB b x y) q k = (placeS t b q k).map (movC x y) := by
  unfold placeS
  cases rowS t q with
  | none => rfl
  | some r =>
    rcases find_lst q b x y with ⟨h1, h2⟩ | ⟨f, fx, fy, f', h1, h2, h3⟩
    · rw [h1, h2]; rfl
    · rw [h1, h2]
      dsimp only
      rw [h3.1]
      split
      · rw [atS_lst h3, h3.2.2.1, h3.2.2.2]
        simp only [Option.map_some, movC, Option.some.injEq, CarD.mk.injEq, true_and]
        omega
      · rfl
theorem placeP_lst (t : Tree) (b : Bx) (x y : Int) (p : List Int) : placeP t (lstB b x y) p = (placeP t b p).map (movC x y) := placeS_lst t b x y _ _
theorem carsL_lst (t : Tree) (b : Bx) (x y : Int) : (L : List (List Int)) → carsL t (lstB b x y) L = (carsL t b L).map (List.map (movC x y))
  | [] => rfl
  | p :: ps => by
    rw [carsL, carsL, placeP_lst, carsL_lst t b x y ps]
    cases placeP t b p with
    | none => rfl
    | some d =>
      cases carsL t b ps <;> rfl
theorem carsR_lst (t : Tree) {b : Bx} {x y : Int} (hb : validB b = true) (hl : validB (lstB b x y) = true) : carsR t (lstB b x y) = ((carsR t b).1.map (movC x y), (carsR t b).2) := by
  unfold carsR
  rw [hb, hl]
  split
  · rfl
  · rw [carsL_lst]
    cases carsL t b (allS [] t) <;> rfl
/-- The carets of a valid box are small. -/
theorem carsR_sm {t : Tree} {b : Bx} (hb : validB b = true) : ∀ d ∈ (carsR t b).1, Sm d.x ∧ Sm d.top ∧ Sm d.bottom := by
  unfold carsR
  split
  · simp
  · cases h : carsL t b (allS [] t) with
    | none => simp
    | some l =>
      have go : ∀ (L : List (List Int)) (l : List CarD), (∀ p ∈ L, posIn t p = true) → carsL t b L = some l → ∀ d ∈ l, Sm d.x ∧ Sm d.top ∧ Sm d.bottom := by
        intro L
        induction L with
        | nil => intro l _ h; simp [carsL] at h; subst h; simp
        | cons p ps ih =>
          intro l hp h
          rw [carsL] at h
          cases hq : placeP t b p with
          | none => rw [hq] at h; cases h
          | some d =>
            rw [hq] at h
            cases hl : carsL t b ps with
            | none => rw [hl] at h; cases h
            | some l' =>
              rw [hl] at h
              simp only [Option.map_some, Option.some.injEq] at h
              subst h
              intro d' hd'
              rcases List.mem_cons.1 hd' with rfl | hd'
              · obtain ⟨_, a1, a2, a3, _⟩ := placeP_ok hb (hp p (by simp)) hq
                exact ⟨a1, a2, a3⟩
              · exact ih l' (fun q hq => hp q (by simp [hq])) hl d' hd'
      exact go _ l (fun p hp => mem_all.1 hp) h
end Go.Proofs.YtmahiejfniaahaaDoor
