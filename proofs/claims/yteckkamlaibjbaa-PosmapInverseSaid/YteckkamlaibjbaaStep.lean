/- append onto numbers of the call's own, as a step of a region that draws; literals that the call has laid. -/
import Derived.Test.YteckkamlaibjbaaConcat
import Derived.Test.YteckkamlaibjbaaPlaceD
set_option linter.unusedVariables false
set_option linter.unusedSimpArgs false
namespace Go.Proofs.Yteckkamlaibjbaa
open Go.RowKit

theorem step_app_ints {w : World} {ops : Array Oper} {o : Oper} {a : Act} {K : Act → World → Prop} {Q : Exit → Act → World → Prop} {E : Prop} (hgd : o.guard = none) (s x : Operand)
    (ho : o.op = .call { callee := .builtin .append, args := #[s, x], argTypes := #[25, 25] })
    (b : Nat) (v : Value) (xs ys : List Int) (hs : a.eval s = v) (hown : Owns w b xs v) (S : Nat → Prop) (A : Option Addr) (m c : Nat) (hx : a.eval x = .slice A m c) (hr : IntsR w S ys (.slice A m c))
    (hbound : xs.length + ys.length ≤ 1000000000) (hb : b ≤ w.heap.size)
    (h : ∀ v' w', Owns w' b (xs ++ ys) v' → Below b w w' → (v'.ownBlock = v.ownBlock ∨ v'.ownBlock = some w.heap.size) → K (a.put o.dst v') w') :
    if Region.wanted o (yielded ops a.tmps) = true then Oper.wp Try.prog o a w K Q else E := by
  obtain ⟨i0, hi0, hz0, hz1, hz2⟩ := info_parts intInfo
  obtain ⟨A', cap', rs, e, h1, h2, hrd, hls⟩ := hr
  injection e with e1 e2 e3
  subst e1 e2 e3
  have hl := hls.len
  have hp := (listR_int.1 hls)
  refine step_append_any w hgd s x 25 ho b 3 i0 _ 1 8 Try.underlying25 hi0 hz0 hz1 hz2 rfl (by omega) v _ _ hs hown.1 S A _ c rs hx hl hrd hls.one (by simp only [maxLen]; omega) (by omega) hb ?_
  intro v' w' h3 h4 h5
  refine h v' w' ⟨?_, ?_⟩ (below_of_grown _ hown.1 h4 hb) h5
  · rw [List.length_append, List.map_append, ← hp.1]; exact h3
  · intro y hy
    rcases List.mem_append.1 hy with hy | hy
    · exact hown.2 y hy
    · exact hp.2 y hy

theorem owns_lit (W : World) (b : Nat) (xs : List Int) (hxs : ∀ x ∈ xs, In64 x) (n g : Nat) (hn : n = xs.length) (hg : g = W.heap.size) (hb : b ≤ W.heap.size) (arr : Array Value) (harr : arr = (xs.map (Value.int .i64 ·)).toArray) (hl : n ≤ maxLen) :
    Owns (W.alloc (.cells arr 3)) b xs (.slice (some ⟨g, 0, none⟩) n n) := by
  subst hn hg harr
  refine ⟨⟨by simp, .inr ⟨W.heap.size, xs.length, _, rfl, hb, heap_alloc_new W _, Nat.le_refl _, hl, by simp, by rw [Nat.mul_one, List.take_of_length_le (by simp)]⟩⟩, hxs⟩

/-- A literal, a second one behind it: what is asked for 'append(literal, s)'. -/
theorem app_pre (w W0 : World) (hb0 : Below w.heap.size w W0) (xs : List Int) (hxs : ∀ x ∈ xs, In64 x) (hl : xs.length ≤ 1000) (s : Int) (hs : In64 s) (n g g' : Nat) (hn : n = xs.length) (hg : g = W0.heap.size) (hg' : g' = W0.heap.size + 1) (arr : Array Value) (harr : arr = (xs.map (Value.int .i64 ·)).toArray) :
    Owns ((W0.alloc (.cells arr 3)).alloc (.cells #[.int .i64 s] 3)) w.heap.size xs (.slice (some ⟨g, 0, none⟩) n n) ∧
    IntsR ((W0.alloc (.cells arr 3)).alloc (.cells #[.int .i64 s] 3)) (Lt ((W0.alloc (.cells arr 3)).alloc (.cells #[.int .i64 s] 3)).heap.size) [s] (.slice (some ⟨g', 0, none⟩) 1 1) ∧
    Below w.heap.size w ((W0.alloc (.cells arr 3)).alloc (.cells #[.int .i64 s] 3)) := by
  have h1 : Below w.heap.size w (W0.alloc (.cells arr 3)) := hb0.trans ((below_alloc _ _).mono hb0.size)
  refine ⟨(owns_lit W0 _ xs hxs n g hn hg hb0.size arr harr (by unfold maxLen; omega)).below (below_alloc _ _), ints_lit _ [s] (by simpa using hs) (by unfold Lt; simp) _ 1 rfl rfl (by simp [maxLen]) _ g' (by rw [hg']; simp), h1.trans ((below_alloc _ _).mono h1.size)⟩
end Go.Proofs.Yteckkamlaibjbaa
