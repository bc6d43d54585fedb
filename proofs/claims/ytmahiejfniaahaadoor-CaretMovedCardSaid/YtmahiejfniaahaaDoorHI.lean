/- Texts put together: AllR, Idx. -/
import Derived.Test.YtmahiejfniaahaaDoorGR
import Derived.Test.YtmahiejfniaahaaDoorHH
import Derived.Test.YtmahiejfniaahaaDoorHG
import Derived.Deep.RegionHeld3
import Derived.IntWalk
/- ref10.all. -/
set_option linter.unusedVariables false
set_option linter.unusedSimpArgs false
set_option maxRecDepth 100000
namespace Go.Proofs.YtmahiejfniaahaaDoor
open Go.RowKit

def AllPost (w : World) (xss : List (List Int)) (e : Ending) (w' : World) : Prop := ∃ v, e = .returned v ∧ OwnRows w' w.heap.size xss v ∧ Below w.heap.size w w'

theorem itemsS_drop (path : List Int) {ts : List Tree} {j : Nat} (h : j < ts.length) : itemsS path j (ts.drop j) = (path ++ [(j : Int)]) :: (slotsS path j 0 ts[j].kids ++ itemsS path (j + 1) (ts.drop (j + 1))) := by
  rw [List.drop_eq_getElem_cons h, itemsS_cons]
theorem slotsS_drop (path : List Int) (j : Nat) {us : List Tree} {k : Nat} (h : k < us.length) : slotsS path j k (us.drop k) = allS (path ++ [(j : Int), (k : Int)]) us[k] ++ slotsS path j (k + 1) (us.drop (k + 1)) := by
  rw [List.drop_eq_getElem_cons h, slotsS]

theorem kids_at {w : World} {S : Nat → Prop} {ts : List Tree} {A : Option Addr} {n cap : Nat} (h : SliceR treeE w S ts (.slice A n cap)) {k : Nat} (hk : k < ts.length) :
    ∃ g o A' cap', A = some ⟨g, o, none⟩ ∧ S g ∧ (w.cell? ⟨g, o + k * 4, none⟩ = some (.int .i64 ts[k].kind) ∧ w.cell? ⟨g, o + k * 4 + 1, none⟩ = some (.string ts[k].text) ∧
      w.cell? ⟨g, o + k * 4 + 2, none⟩ = some (.int .i64 ts[k].cols) ∧ w.cell? ⟨g, o + k * 4 + 3, none⟩ = some (.slice A' ts[k].kids.length cap')) ∧ ts[k].text.size ≤ maxLen ∧ ts[k].kids.length ≤ maxLen ∧ SliceR treeE w S ts[k].kids (.slice A' ts[k].kids.length cap') := by
  obtain ⟨_, _, rs, hq, _, _, h7, h8⟩ := h
  cases hq
  obtain ⟨g, o, A', cap', rs', hA, hg, e0, e1, e2, e3, _, _, htx, hc5, hc6, hrd, hls⟩ := trees_at h7 h8 hk
  exact ⟨g, o, A', cap', hA, hg, ⟨e0, e1, e2, e3⟩, htx, by omega, A', cap', rs', rfl, hc5, hc6, hrd, hls⟩

end Go.Proofs.YtmahiejfniaahaaDoor
/- ref10: All, Index, Valid. -/
set_option linter.unusedVariables false
set_option linter.unusedSimpArgs false
set_option maxRecDepth 100000
namespace Go.Proofs.YtmahiejfniaahaaDoor
open Go.RowKit

theorem valid_count {t : Tree} (h : validS t = true) : countS t ≤ 1000 ∧ t.kind = 1 ∧ formS t = true ∧ depthS t ≤ 24 := by
  unfold validS at h
  simp only [Bool.and_eq_true, decide_eq_true_eq, beq_iff_eq] at h
  exact ⟨by omega, h.1.1.1, h.1.1.2, by omega⟩

def AllRes (w : World) (b : Bool) (L : List (List Int)) (e : Ending) (w' : World) : Prop :=
  Below w.heap.size w w' ∧ ((b = false ∧ e = .returned (.tuple #[.slice none 0 0, .int .i64 1])) ∨ (b = true ∧ ∃ v, e = .returned (.tuple #[v, .int .i64 0]) ∧ OwnRows w' w.heap.size L v))

theorem below_dn1R {B : Nat} {a w : World} (h : Below B a w) (n : Nat) : Below B a (w.drewN n) := ⟨h.os, h.tape, h.output, h.size, h.block⟩
theorem below_dnR {B : Nat} {a w : World} (h : Below B a w) (n m : Nat) : Below B a ((w.drewN n).drewN m) := ⟨h.os, h.tape, h.output, h.size, h.block⟩
/-- The index of a position among a list's. -/
def idxS (l : List (List Int)) (p : List Int) : Option Nat := l.findIdx? (fun q => decide (cmpS q p = 0))
theorem idxS_drop (l : List (List Int)) (p : List Int) {k : Nat} (h : k < l.length) (hn : idxS (l.take k) p = none) (hk : cmpS l[k] p ≠ 0) : idxS (l.take (k + 1)) p = none := by
  unfold idxS at *
  rw [List.findIdx?_eq_none_iff] at *
  intro x hx
  rw [List.take_succ_eq_append_getElem h, List.mem_append] at hx
  rcases hx with hx | hx
  · exact hn x hx
  · simp only [List.mem_singleton] at hx; subst hx; simpa using hk
theorem idxS_at (l : List (List Int)) (p : List Int) {k : Nat} (h : k < l.length) (hn : idxS (l.take k) p = none) (hk : cmpS l[k] p = 0) : idxS l p = some k := by
  unfold idxS at *
  rw [List.findIdx?_eq_none_iff] at hn
  rw [List.findIdx?_eq_some_iff_getElem]
  refine ⟨h, by simpa using hk, fun j hj => ?_⟩
  have := hn (l[j]'(by omega)) (by rw [List.mem_iff_getElem]; exact ⟨j, by simp; omega, by simp⟩)
  simpa using this
theorem idxS_isSome (t : Tree) (p : List Int) : (idxS (allS [] t) p).isSome = posIn t p := by
  rw [Bool.eq_iff_iff, ← mem_all]
  unfold idxS
  rw [List.findIdx?_isSome, List.any_eq_true]
  constructor
  · rintro ⟨q, hq, h⟩
    have : q = p := (cmpS_zero _ _).1 (by simpa using h)
    rw [← this]; exact hq
  · intro h
    exact ⟨p, h, by simp [cmpS_self]⟩

def IdxRes (w : World) (b : Bool) (L : List (List Int)) (p : List Int) (e : Ending) (w' : World) : Prop :=
  Below w.heap.size w w' ∧ ((b = false ∧ e = .returned (.tuple #[.int .i64 0, .int .i64 1])) ∨ (b = true ∧ ((idxS L p = none ∧ e = .returned (.tuple #[.int .i64 0, .int .i64 2])) ∨ ∃ i : Nat, i < L.length ∧ idxS L p = some i ∧ e = .returned (.tuple #[.int .i64 i, .int .i64 0]))))

theorem allS_le (t : Tree) (h : countS t ≤ 900000) : (allS [] t).length ≤ 2000000 := by rw [allS_len]; have := cntS_le t; omega

end Go.Proofs.YtmahiejfniaahaaDoor
