/- Texts put together: HitP, HitC, VrtP. -/
import Derived.Test.YtmahiejfniaahaaGreatDoorHC
import Derived.Test.YtmahiejfniaahaaGreatDoorGQ
import Derived.Laws.EntriesVeiled
set_option linter.unusedVariables false
set_option linter.unusedSimpArgs false
set_option maxRecDepth 100000
namespace Go.Proofs.YtmahiejfniaahaaGreatDoor
open Go.RowKit
structure CarD.Sm (d : CarD) : Prop where
  x : Go.Proofs.YtmahiejfniaahaaGreatDoor.Sm d.x
  top : Go.Proofs.YtmahiejfniaahaaGreatDoor.Sm d.top
  bottom : Go.Proofs.YtmahiejfniaahaaGreatDoor.Sm d.bottom
theorem CarD.Sm.zero : zeroC.Sm := ⟨by simp [zeroC, Go.Proofs.YtmahiejfniaahaaGreatDoor.Sm], by simp [zeroC, Go.Proofs.YtmahiejfniaahaaGreatDoor.Sm], by simp [zeroC, Go.Proofs.YtmahiejfniaahaaGreatDoor.Sm]⟩
end Go.Proofs.YtmahiejfniaahaaGreatDoor
set_option linter.unusedVariables false
set_option linter.unusedSimpArgs false
set_option maxRecDepth 100000
namespace Go.Proofs.YtmahiejfniaahaaGreatDoor
open Go.RowKit
theorem carsL_sm (t : Tree) (b : Bx) (hv : validB b = true) : (L : List (List Int)) → (l : List CarD) → (∀ p ∈ L, posIn t p = true) → carsL t b L = some l → ∀ d ∈ l, d.Sm
  | [], l, _, h => by simp [carsL] at h; subst h; simp
  | p :: ps, l, hp, h => by
    rw [carsL] at h
    cases hq : placeP t b p with
    | none => rw [hq] at h; cases h
    | some d =>
      rw [hq] at h
      cases hl : carsL t b ps with
      | none => rw [hl] at h; cases h
      | some l' =>
        rw [hl] at h
        simp only [Option.map_some, Option.some.injEq] at h
        subst h
        intro d' hd'
        rcases List.mem_cons.1 hd' with rfl | hd'
        · obtain ⟨_, a1, a2, a3, _⟩ := placeP_ok hv (hp p (by simp)) hq
          exact ⟨a1, a2, a3⟩
        · exact carsL_sm t b hv ps l' (fun q hq => hp q (by simp [hq])) hl d' hd'
theorem carsR_cases {t : Tree} {b : Bx} (h : (validS t && validB b) = true) : carsR t b = ([], 8) ∨ ∃ l, carsR t b = (l, 0) ∧ carsL t b (allS [] t) = some l ∧ (∀ d ∈ l, d.Sm) ∧ 0 < l.length := by
  have hv : validB b = true := by cases hh : validB b <;> simp_all
  rw [carsR, if_neg (by simp [h])]
  cases hc : carsL t b (allS [] t) with
  | none => exact .inl rfl
  | some l =>
    refine .inr ⟨l, rfl, rfl, carsL_sm t b hv _ l (fun p hp => mem_all.1 hp) hc, ?_⟩
    rw [carsL_len t b _ l hc]
    exact allS_pos t
theorem two_true {a b : Bool} (h1 : a = true) (h2 : b = true) : (a && b) = true := by rw [h1, h2]; rfl
end Go.Proofs.YtmahiejfniaahaaGreatDoor
set_option linter.unusedVariables false
set_option linter.unusedSimpArgs false
set_option maxRecDepth 100000
namespace Go.Proofs.YtmahiejfniaahaaGreatDoor
open Go.RowKit
def levS (d : CarD) : Int := d.top + d.bottom
def farS (d e : CarD) : Int := max (levS d - levS e) (levS e - levS d) + 2 * max (d.x - e.x) (e.x - d.x)
def candS (q : List Int) (e : CarD) (sign : Int) (d : CarD) : Bool := !decide (d.pos.dropLast = q) && decide (0 < sign * (levS d - levS e))
def leastStep {α : Type} (f : α → Int) (b : Option α) (x : α) : Option α := match b with | none => some x | some y => if f x < f y then some x else some y
def leastBy {α : Type} (f : α → Int) (l : List α) : Option α := l.foldl (leastStep f) none
theorem leastBy_snoc {α : Type} (f : α → Int) (l : List α) (x : α) : leastBy f (l ++ [x]) = leastStep f (leastBy f l) x := by simp [leastBy]
theorem leastBy_map_go {α β : Type} (f : β → Int) (g : α → β) (l : List α) : ∀ b : Option α, (l.map g).foldl (leastStep f) (b.map g) = (l.foldl (leastStep (f ∘ g)) b).map g := by
  induction l with
  | nil => intro b; rfl
  | cons x l ih =>
    intro b
    rw [List.map_cons, List.foldl_cons, List.foldl_cons, ← ih]
    congr 1
    cases b with
    | none => rfl
    | some y =>
      simp only [leastStep, Option.map_some, Function.comp]
      split <;> rfl
theorem leastBy_map {α β : Type} (f : β → Int) (g : α → β) (l : List α) : leastBy f (l.map g) = (leastBy (f ∘ g) l).map g := leastBy_map_go f g l none
def vertR (t : Tree) (b : Bx) (p : List Int) (sign : Int) : List Int × Int :=
  match carsR t b with
  | (l, er) => if er ≠ 0 then ([], er) else match placeP t b p with
    | none => ([], 8)
    | some e => match leastBy (farS · e) (l.filter (candS p.dropLast e sign)) with
      | none => ([], 8)
      | some d => (d.pos, 0)
theorem carsL_at (t : Tree) (b : Bx) : (L : List (List Int)) → (l : List CarD) → carsL t b L = some l → ∀ k (h : k < l.length) (h' : k < L.length), placeP t b L[k] = some l[k]
  | [], l, h, k, hk, hk' => by simp at hk'
  | p :: ps, l, h, k, hk, hk' => by
    rw [carsL] at h
    cases hq : placeP t b p with
    | none => rw [hq] at h; cases h
    | some d =>
      rw [hq] at h
      cases hl : carsL t b ps with
      | none => rw [hl] at h; cases h
      | some l' =>
        rw [hl] at h
        simp only [Option.map_some, Option.some.injEq] at h
        subst h
        cases k with
        | zero => exact hq
        | succ k => exact carsL_at t b ps l' hl k (by simpa using hk) (by simpa using hk')
theorem cars_own {t : Tree} {b : Bx} {l : List CarD} (hv : validB b = true) (h : carsL t b (allS [] t) = some l) : ∀ k (hk : k < l.length), placeP t b l[k].pos = some l[k] ∧ posIn t l[k].pos = true := fun k hk => by
  have hll := carsL_len t b _ l h
  have h1 := carsL_at t b _ l h k hk (by omega)
  have h2 : posIn t (allS [] t)[k] = true := mem_all.1 (List.getElem_mem (by omega))
  obtain ⟨h3, _⟩ := placeP_ok hv h2 h1
  rw [h3]
  exact ⟨h1, h2⟩
theorem cars_has {t : Tree} {b : Bx} {l : List CarD} (hv : validB b = true) (h : carsL t b (allS [] t) = some l) {p : List Int} (hp : posIn t p = true) : ∃ k, ∃ hk : k < l.length, l[k].pos = p := by
  obtain ⟨k, hk, he⟩ := List.mem_iff_getElem.1 (mem_all.2 hp)
  have hll := carsL_len t b _ l h
  have h1 := carsL_at t b _ l h k (by omega) hk
  have h2 : posIn t (allS [] t)[k] = true := mem_all.1 (List.getElem_mem hk)
  obtain ⟨h3, _⟩ := placeP_ok hv h2 h1
  exact ⟨k, by omega, by rw [h3, he]⟩
theorem CarD.Sm.lev {d : CarD} (h : d.Sm) : -140737488355328 ≤ levS d ∧ levS d ≤ 140737488355328 := by
  obtain ⟨h1, h2, h3⟩ := h
  unfold Go.Proofs.YtmahiejfniaahaaGreatDoor.Sm at h1 h2 h3
  unfold levS
  omega
theorem farS_bd {d e : CarD} (h : d.Sm) (k : e.Sm) : 0 ≤ farS d e ∧ farS d e ≤ 1125899906842624 := by
  have h1 := h.lev
  have h2 := k.lev
  obtain ⟨a1, _, _⟩ := h
  obtain ⟨b1, _, _⟩ := k
  unfold Go.Proofs.YtmahiejfniaahaaGreatDoor.Sm at a1 b1
  unfold farS
  omega
abbrev CarV := CarD × Value
def carVal (x : CarV) : Value := .agg #[x.2, .int .i64 x.1.x, .int .i64 x.1.top, .int .i64 x.1.bottom]
end Go.Proofs.YtmahiejfniaahaaGreatDoor
