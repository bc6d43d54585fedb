/- Texts put together: Pos2, Pos3, Pos4, Pos5, Pos6, PosL2, PosL3. -/
import Derived.Test.YtmahiejfniaahaaDoorGJ
import Derived.Test.YtmahiejfniaahaaDoorGK
import Derived.Test.YtmahiejfniaahaaDoorGQ
import Derived.Test.YtmahiejfniaahaaDoorHI
import Derived.Lib.LazyBuf
/- position.Next. -/
set_option linter.unusedVariables false
set_option linter.unusedSimpArgs false
set_option maxRecDepth 100000
namespace Go.Proofs.YtmahiejfniaahaaDoor
open Go Go.RowKit Go.Shelf
attribute [local go_sem] Oper.semAt_some

def nextS (L : List (List Int)) (p : List Int) : Option (List Int) := L.find? (fun q => decide (0 < cmpS q p))
def nextR (t : Tree) (p : List Int) : List Int × Int :=
  if chkR (validS t) (posIn t p) = 0 then (match nextS (allS [] t) p with | some q => (q, 0) | none => ([], 8)) else ([], chkR (validS t) (posIn t p))

theorem find_pre {L : List (List Int)} {pre : List PosV} {x : PosV} (f : List Int → Bool) (h : (pre ++ [x]).map Prod.fst <+: L) (h1 : ∀ y ∈ pre, f y.1 = false) (h2 : f x.1 = true) : L.find? f = some x.1 := by
  obtain ⟨r, rfl⟩ := h
  rw [List.find?_append, List.map_append, List.find?_append]
  have : (pre.map Prod.fst).find? f = none := by rw [List.find?_eq_none]; intro q hq; obtain ⟨y, hy, rfl⟩ := List.mem_map.1 hq; simp [h1 y hy]
  rw [this]
  simp [h2]
theorem find_none {L : List (List Int)} {pre : List PosV} (f : List Int → Bool) (h : pre.map Prod.fst = L) (h1 : ∀ y ∈ pre, f y.1 = false) : L.find? f = none := by
  subst h
  rw [List.find?_eq_none]; intro q hq; obtain ⟨y, hy, rfl⟩ := List.mem_map.1 hq; simp [h1 y hy]

end Go.Proofs.YtmahiejfniaahaaDoor
/- position.Count. -/
set_option linter.unusedVariables false
set_option linter.unusedSimpArgs false
set_option maxRecDepth 100000
namespace Go.Proofs.YtmahiejfniaahaaDoor
open Go Go.RowKit Go.Shelf
attribute [local go_sem] Oper.semAt_some

/-- The worlds where a loop begins: a box for the body, and the tree's box. -/
theorem box_two (w1 : World) (b u0 u1 u2 u3 : Value) (ty tn : TypeId) :
    ((w1.alloc (.cells #[b] ty)).alloc (.cells #[u0, u1, u2, u3] tn)).cell? ⟨w1.heap.size + 1, 3, none⟩ = some u3 ∧
    (((w1.alloc (.cells #[b] ty)).alloc (.cells #[u0, u1, u2, u3] tn)).cell? ⟨w1.heap.size, 0, none⟩ = some b ∧ ((w1.alloc (.cells #[b] ty)).alloc (.cells #[u0, u1, u2, u3] tn)).frozen? ⟨w1.heap.size, 0, none⟩ = false) ∧
    ((w1.alloc (.cells #[b] ty)).alloc (.cells #[u0, u1, u2, u3] tn)).heap.size = w1.heap.size + 2 := by
  have hh := World.alloc_heap_new w1 (.cells #[b] ty)
  have h : (w1.alloc (.cells #[b] ty)).cell? ⟨w1.heap.size, 0, none⟩ = some b ∧ (w1.alloc (.cells #[b] ty)).frozen? ⟨w1.heap.size, 0, none⟩ = false := by
    generalize w1.alloc (.cells #[b] ty) = W at hh ⊢
    constructor <;> simp [World.cell?, World.frozen?, hh]
  refine ⟨?_, frozen_al h _, by simp⟩
  have e : (w1.alloc (.cells #[b] ty)).heap.size = w1.heap.size + 1 := by simp
  rw [← e, World.cell?_alloc_new]; rfl

theorem ret_i {k : IntKind} {a b : Int} (h : a = b) : Ending.returned (.int k a) = .returned (.int k b) := by rw [h]
def countR (t : Tree) : Int := if validS t then (allS [] t).length else 0

end Go.Proofs.YtmahiejfniaahaaDoor
/- position.Index. -/
set_option linter.unusedVariables false
set_option linter.unusedSimpArgs false
set_option maxRecDepth 100000
namespace Go.Proofs.YtmahiejfniaahaaDoor
open Go Go.RowKit Go.Shelf
attribute [local go_sem] Oper.semAt_some

/-- The number of the positions ahead of p. -/
def idxE (L : List (List Int)) (p : List Int) : Nat := (L.takeWhile (fun q => decide (q ≠ p))).length
theorem takeWhile_pre {L : List (List Int)} {pre : List PosV} {x : PosV} (f : List Int → Bool) (h : (pre ++ [x]).map Prod.fst <+: L) (h1 : ∀ y ∈ pre, f y.1 = true) (h2 : f x.1 = false) : L.takeWhile f = pre.map Prod.fst := by
  obtain ⟨r, rfl⟩ := h
  have h3 : ∀ a ∈ pre.map Prod.fst, f a = true := fun a ha => by obtain ⟨y, hy, rfl⟩ := List.mem_map.1 ha; exact h1 y hy
  rw [List.map_append, List.append_assoc, List.takeWhile_append_of_pos h3]
  simp [List.takeWhile_cons, h2]
theorem takeWhile_all {L : List (List Int)} {pre : List PosV} (f : List Int → Bool) (h : pre.map Prod.fst = L) (h1 : ∀ y ∈ pre, f y.1 = true) : L.takeWhile f = pre.map Prod.fst := by
  subst h
  have h3 : ∀ a ∈ pre.map Prod.fst, f a = true := fun a ha => by obtain ⟨y, hy, rfl⟩ := List.mem_map.1 ha; exact h1 y hy
  have := List.takeWhile_append_of_pos (l₂ := []) h3
  simpa using this
def indexR (t : Tree) (p : List Int) : Int × Int := if chkR (validS t) (posIn t p) = 0 then ((idxE (allS [] t) p : Int), 0) else (0, chkR (validS t) (posIn t p))

end Go.Proofs.YtmahiejfniaahaaDoor
/- position.Prev. -/
set_option linter.unusedVariables false
set_option linter.unusedSimpArgs false
set_option maxRecDepth 100000
namespace Go.Proofs.YtmahiejfniaahaaDoor
open Go Go.RowKit Go.Shelf
attribute [local go_sem] Oper.semAt_some

def lastV (pre : List PosV) : Value := match pre.getLast? with | some x => x.2 | none => .slice none 0 0
def lastL (pre : List PosV) : List Int := match pre.getLast? with | some x => x.1 | none => []
theorem lastV_snoc (pre : List PosV) (x : PosV) : lastV (pre ++ [x]) = x.2 := by simp [lastV]
theorem lastL_snoc (pre : List PosV) (x : PosV) : lastL (pre ++ [x]) = x.1 := by simp [lastL]
/-- The position ahead of p. -/
def lastO (L : List (List Int)) (p : List Int) : Option (List Int) := (L.takeWhile (fun q => decide (q ≠ p))).getLast?
def optR (o : Option (List Int)) : List Int × Int := match o with | some q => (q, 0) | none => ([], 8)
def prevR (t : Tree) (p : List Int) : List Int × Int := if chkR (validS t) (posIn t p) = 0 then optR (lastO (allS [] t) p) else ([], chkR (validS t) (posIn t p))

end Go.Proofs.YtmahiejfniaahaaDoor
/- position.At. -/
set_option linter.unusedVariables false
set_option linter.unusedSimpArgs false
set_option maxRecDepth 100000
namespace Go.Proofs.YtmahiejfniaahaaDoor
open Go Go.RowKit Go.Shelf
attribute [local go_sem] Oper.semAt_some

def ExSnoc (P : List PosV → PosV → Prop) (pre : List PosV) : Prop := ∃ q x, pre = q ++ [x] ∧ P q x
def atL (L : List (List Int)) (i : Int) : List Int × Int := if 0 ≤ i then (match L[i.toNat]? with | some q => (q, 0) | none => ([], 2)) else ([], 2)
def atR (t : Tree) (i : Int) : List Int × Int := if validS t then atL (allS [] t) i else ([], 1)
theorem atL_some {L : List (List Int)} {q : List PosV} {x : PosV} {i : Int} (h : (q ++ [x]).map Prod.fst <+: L) (hi : (q.length : Int) = i) : atL L i = (x.1, 0) := by
  obtain ⟨r, rfl⟩ := h
  subst hi
  have h1 : List.map Prod.fst (q ++ [x]) ++ r = q.map Prod.fst ++ x.1 :: r := by simp
  rw [atL, if_pos (by omega), Int.toNat_natCast, h1, List.getElem?_append_right (by simp)]
  simp
theorem atL_none {L : List (List Int)} {q : List PosV} {i : Int} (h : q.map Prod.fst = L) (hi : i < 0 ∨ (q.length : Int) ≤ i) : atL L i = ([], 2) := by
  subst h
  unfold atL
  by_cases h0 : 0 ≤ i
  · rw [if_pos h0, List.getElem?_eq_none (by simp; omega)]
  · rw [if_neg h0]

end Go.Proofs.YtmahiejfniaahaaDoor
/- Plain: neighbours and numbers of positions. -/
set_option linter.unusedVariables false
set_option linter.unusedSimpArgs false
namespace Go.Proofs.YtmahiejfniaahaaDoor

theorem split_lt {L : List (List Int)} (h : L.Pairwise ltS) {i : Nat} (hi : i < L.length) : (∀ a ∈ L.take i, ltS a L[i]) ∧ (∀ b ∈ L.drop (i + 1), ltS L[i] b) := by
  have e : L.take i ++ L[i] :: L.drop (i + 1) = L := by rw [← List.drop_eq_getElem_cons hi, List.take_append_drop]
  rw [← e, List.pairwise_append, List.pairwise_cons] at h
  exact ⟨fun a ha => h.2.2 a ha _ (List.mem_cons_self), h.2.1.1⟩
theorem ltS_ne {a b : List Int} (h : ltS a b) : a ≠ b := fun e => by subst e; unfold ltS at h; rw [cmpS_self] at h; omega
theorem take_at {L : List (List Int)} (h : L.Pairwise ltS) {i : Nat} (hi : i < L.length) {p : List Int} (hp : L[i] = p) : L.takeWhile (fun q => decide (q ≠ p)) = L.take i := by
  subst hp
  obtain ⟨h1, _⟩ := split_lt h hi
  have e : L.takeWhile (fun q => decide (q ≠ L[i])) = (L.take i ++ L[i] :: L.drop (i + 1)).takeWhile (fun q => decide (q ≠ L[i])) := by rw [← List.drop_eq_getElem_cons hi, List.take_append_drop]
  rw [e, List.takeWhile_append_of_pos (fun a ha => by simpa using ltS_ne (h1 a ha)), List.takeWhile_cons_of_neg (by simp), List.append_nil]
theorem next_at {L : List (List Int)} (h : L.Pairwise ltS) {i : Nat} (hi : i < L.length) {p : List Int} (hp : L[i] = p) : nextS L p = L[i + 1]? := by
  subst hp
  obtain ⟨h1, h2⟩ := split_lt h hi
  have e : nextS L L[i] = (L.take i ++ L[i] :: L.drop (i + 1)).find? (fun q => decide (0 < cmpS q L[i])) := by rw [← List.drop_eq_getElem_cons hi, List.take_append_drop]; rfl
  rw [e, List.find?_append, List.find?_eq_none.2 (fun a ha => by have := h1 a ha; unfold ltS at this; simp; omega), List.find?_cons_of_neg (by simp [cmpS_self])]
  simp only [Option.none_or]
  rw [← List.head?_drop]
  cases hd : L.drop (i + 1) with
  | nil => rfl
  | cons b r =>
    have := h2 b (by rw [hd]; exact List.mem_cons_self)
    unfold ltS at this
    rw [cmpS_swap b L[i]] at this
    rw [List.find?_cons_of_pos (by simp; omega)]; rfl
theorem idxS_spec {L : List (List Int)} {p : List Int} {i : Nat} (h : idxS L p = some i) : ∃ hi : i < L.length, L[i] = p := by
  unfold idxS at h
  obtain ⟨hi, h1⟩ := List.findIdx?_eq_some_iff_getElem.1 h
  exact ⟨hi, by have := h1.1; simpa [cmpS_zero] using this⟩

/-- What Index answers. -/
def idxR (b : Bool) (o : Option Nat) : Int × Int := if b then (match o with | some i => ((i : Int), 0) | none => (0, 2)) else (0, 1)
def stepO (L : List (List Int)) (o : Option Nat) (d : Int) : List Int × Int := match o with | some i => (if (atL L ((i : Int) + d)).2 = 0 then ((atL L ((i : Int) + d)).1, 0) else ([], 8)) | none => ([], 2)
def stepR (t : Tree) (p : List Int) (d : Int) : List Int × Int := if validS t then stepO (allS [] t) (idxS (allS [] t) p) d else ([], 1)

theorem atL_nat (L : List (List Int)) (k : Nat) {i : Int} (h : i = (k : Int)) : atL L i = (match L[k]? with | some q => (q, 0) | none => ([], 2)) := by
  subst h; rw [atL, if_pos (by omega), Int.toNat_natCast]; all_goals (cases L[k]? <;> rfl)
theorem idx_cases (t : Tree) (p : List Int) : (posIn t p = true ∧ ∃ i, idxS (allS [] t) p = some i ∧ ∃ hi : i < (allS [] t).length, (allS [] t)[i] = p) ∨ (posIn t p = false ∧ idxS (allS [] t) p = none) := by
  have h := idxS_isSome t p
  cases hp : posIn t p
  · rw [hp] at h; exact .inr ⟨rfl, by cases hq : idxS (allS [] t) p with | none => rfl | some i => rw [hq] at h; cases h⟩
  · rw [hp] at h
    cases hq : idxS (allS [] t) p with
    | none => rw [hq] at h; cases h
    | some i => exact .inl ⟨rfl, i, rfl, idxS_spec hq⟩

theorem index_eq (t : Tree) (p : List Int) : indexR t p = idxR (validS t) (idxS (allS [] t) p) := by
  unfold indexR idxR chkR
  cases hv : validS t
  · simp
  · rcases idx_cases t p with ⟨hp, i, hi, hl, he⟩ | ⟨hp, hi⟩
    · rw [hp, hi]
      simp only [if_true]
      rw [idxE, take_at (allS_sorted [] t) hl he]
      simp; omega
    · rw [hp, hi]; simp
theorem next_eq (t : Tree) (p : List Int) : nextR t p = stepR t p 1 := by
  unfold nextR stepR chkR
  cases hv : validS t
  · simp
  · rcases idx_cases t p with ⟨hp, i, hi, hl, he⟩ | ⟨hp, hi⟩
    · rw [hp, hi]
      simp only [if_true, stepO]
      rw [next_at (allS_sorted [] t) hl he, atL_nat (allS [] t) (i + 1) (by omega)]
      cases (allS [] t)[i + 1]? <;> simp
    · rw [hp, hi]; simp [stepO]
theorem prev_eq (t : Tree) (p : List Int) : prevR t p = stepR t p (-1) := by
  unfold prevR stepR chkR
  cases hv : validS t
  · simp
  · rcases idx_cases t p with ⟨hp, i, hi, hl, he⟩ | ⟨hp, hi⟩
    · rw [hp, hi]
      simp only [if_true, stepO]
      rw [lastO, take_at (allS_sorted [] t) hl he]
      rcases i with _ | i
      · simp [optR, atL]
      · rw [atL_nat (allS [] t) i (by omega), List.getLast?_eq_getElem?]
        have : ((allS [] t).take (i + 1)).length = i + 1 := by simp; omega
        rw [this, Nat.add_sub_cancel, List.getElem?_take_of_lt (by omega)]
        cases (allS [] t)[i]? <;> simp [optR]
    · rw [hp, hi]; simp [stepO]
end Go.Proofs.YtmahiejfniaahaaDoor
/- Plain: the last position; what is ahead of what is behind. -/
set_option linter.unusedVariables false
set_option linter.unusedSimpArgs false
namespace Go.Proofs.YtmahiejfniaahaaDoor

theorem itemsS_last (path : List Int) : ∀ (ts : List Tree) (i : Nat), (itemsS path i ts).getLast? = some (path ++ [((i + ts.length : Nat) : Int)])
  | [], i => by simp [itemsS]
  | t :: ts, i => by
    rw [itemsS_cons]
    have h := itemsS_last path ts (i + 1)
    have h0 : itemsS path (i + 1) ts ≠ [] := fun e => by rw [e] at h; cases h
    have e : (path ++ [(i : Int)]) :: (slotsS path i 0 t.kids ++ itemsS path (i + 1) ts) = ((path ++ [(i : Int)]) :: slotsS path i 0 t.kids) ++ itemsS path (i + 1) ts := by simp
    rw [e, List.getLast?_append, h]
    simp only [Option.some_or]
    rw [List.length_cons]
    congr 3
    omega
theorem allS_last (t : Tree) : (allS [] t).getLast? = some [(t.kids.length : Int)] := by
  rw [allS_eq, itemsS_last]; simp
theorem allS_first (t : Tree) : (allS [] t)[0]? = some [0] := by
  rw [allS_eq]; cases h : t.kids with
  | nil => simp [itemsS]
  | cons u us => rw [itemsS_cons]; simp
theorem allS_at_last (t : Tree) (h : (allS [] t).length - 1 < (allS [] t).length) : (allS [] t)[(allS [] t).length - 1] = [(t.kids.length : Int)] := by
  have := allS_last t
  rw [List.getLast?_eq_getElem?, List.getElem?_eq_getElem h] at this
  exact Option.some.inj this
theorem allS_at_first (t : Tree) (h : 0 < (allS [] t).length) : (allS [] t)[0] = [0] := by
  have := allS_first t
  rw [List.getElem?_eq_getElem h] at this
  exact Option.some.inj this
theorem allS_pos (t : Tree) : 0 < (allS [] t).length := by rw [allS_len]; exact cntS_pos t

theorem idxS_self {L : List (List Int)} (h : L.Pairwise ltS) {i : Nat} (hi : i < L.length) : idxS L L[i] = some i := by
  unfold idxS
  rw [List.findIdx?_eq_some_iff_getElem]
  refine ⟨hi, by simp [cmpS_self], fun j hj => ?_⟩
  have := List.pairwise_iff_getElem.1 h j i (by omega) hi hj
  unfold ltS at this
  simp; omega

theorem neigh (t : Tree) (p m : List Int) (h : stepR t p 1 = (m, 0)) : ∃ i : Nat, (i : Int) ≤ 2 * countS t ∧ idxR (validS t) (idxS (allS [] t) p) = ((i : Int), 0) ∧ idxR (validS t) (idxS (allS [] t) m) = ((i : Int) + 1, 0) ∧ stepR t m (-1) = (p, 0) ∧ cmpS p m = -1 := by
  unfold stepR at h
  cases hv : validS t
  · rw [hv] at h; simp at h
  · rw [hv] at h
    simp only [if_true] at h
    rcases idx_cases t p with ⟨hp, i, hi, hl, he⟩ | ⟨hp, hi⟩
    · rw [hi] at h
      simp only [stepO] at h
      rw [atL_nat (allS [] t) (i + 1) (by omega)] at h
      rcases Nat.lt_or_ge (i + 1) (allS [] t).length with hlt | hge
      · rw [List.getElem?_eq_getElem hlt] at h
        simp only [if_true, Prod.mk.injEq, and_true] at h
        subst h
        have hs := allS_sorted [] t
        have hi1 := idxS_self hs hlt
        refine ⟨i, ?_, by rw [hi]; rfl, by rw [hi1]; simp [idxR], ?_, ?_⟩
        · have h1 := allS_len [] t
          have h2 := cntS_le t
          omega
        · rw [stepR, hv, hi1]
          simp only [if_true, stepO]
          rw [atL_nat (allS [] t) i (by omega), List.getElem?_eq_getElem hl]
          simp [he]
        · have := List.pairwise_iff_getElem.1 hs i (i + 1) hl hlt (by omega)
          rw [he] at this
          unfold ltS at this
          have := cmpS_range p (allS [] t)[i + 1]
          omega
      · rw [List.getElem?_eq_none hge] at h
        simp at h
    · rw [hi] at h; simp [stepO] at h
theorem neigh_last (t : Tree) (p : List Int) (h : (stepR t p 1).2 = 8) : lastR t = (p, 0) := by
  unfold stepR at h
  cases hv : validS t
  · rw [hv] at h; simp at h
  · rw [hv] at h
    simp only [if_true] at h
    rcases idx_cases t p with ⟨hp, i, hi, hl, he⟩ | ⟨hp, hi⟩
    · rw [hi] at h
      simp only [stepO] at h
      rw [atL_nat (allS [] t) (i + 1) (by omega)] at h
      rcases Nat.lt_or_ge (i + 1) (allS [] t).length with hlt | hge
      · rw [List.getElem?_eq_getElem hlt] at h
        simp at h
      · have hil : i = (allS [] t).length - 1 := by omega
        subst hil
        rw [allS_at_last] at he
        rw [lastR, hv, if_pos rfl, he]
    · rw [hi] at h; simp [stepO] at h
end Go.Proofs.YtmahiejfniaahaaDoor
