/- Rows of lists of numbers that a call has made; append onto them. -/
import Derived.Test.YteckkamlaibjbaaConcat
set_option linter.unusedVariables false
set_option linter.unusedSimpArgs false
set_option maxRecDepth 100000
namespace Go.Proofs.Yteckkamlaibjbaa
open Go.RowKit

theorem below_allocR (w : World) (o : Obj) : Below w.heap.size w (w.alloc o) := (Below.refl _ _).alloc (Nat.le_refl _) _

theorem intsInfo : (Try.prog.info? 25).map (fun i => (i.zero, i.size, i.bytes)) = some (some (.slice none 0 0), 1, 24) := by kernel_rfl

/-- Blocks that lie from b on, other than the row of v itself. -/
def FreshIn (b : Nat) (w : World) (v : Value) (k : Nat) : Prop := b ≤ k ∧ k < w.heap.size ∧ some k ≠ v.ownBlock

def OwnRows (w : World) (b : Nat) (xss : List (List Int)) (v : Value) : Prop := ∃ cs, w.ownsRow b 25 1 v xss.length cs ∧ ListR (sliceE intE) w (FreshIn b w v) xss cs

abbrev RowsR (w : World) (S : Nat → Prop) (xss : List (List Int)) (v : Value) : Prop := SliceR (sliceE intE) w S xss v

theorem sameRefl (S : Nat → Prop) (w : World) : Same S w w := fun _ _ => rfl
theorem OwnRows.rows {w : World} {b : Nat} {xss : List (List Int)} {v : Value} (h : OwnRows w b xss v) : RowsR w (fun k => b ≤ k ∧ k < w.heap.size) xss v := by
  obtain ⟨cs, h1, h2⟩ := h
  exact SliceR.of_own (E := sliceE intE) h1 (fun k hk => ⟨(h1.lt k hk).1, (h1.lt k hk).2⟩) (h2.keep (sameRefl _ _) (fun k hk => ⟨hk.1, hk.2.1⟩))
theorem OwnRows.rowsLt {w : World} {b : Nat} {xss : List (List Int)} {v : Value} (h : OwnRows w b xss v) : RowsR w (Lt w.heap.size) xss v := h.rows.keep (sameRefl _ _) (fun k hk => hk.2)
theorem OwnRows.nil (w : World) (b : Nat) : OwnRows w b [] (.slice none 0 0) := ⟨[], World.ownsRow_nil _ _ _ _, rfl⟩
theorem OwnRows.below {w w' : World} {b : Nat} {xss : List (List Int)} {v : Value} (h : OwnRows w b xss v) (hb : Below w.heap.size w w') : OwnRows w' b xss v := by
  obtain ⟨cs, h1, h2⟩ := h
  exact ⟨cs, owns_below _ h1 hb, h2.keep (S := FreshIn b w v) (fun p hp => hb.cell hp.2.1) (fun k hk => ⟨hk.1, Nat.lt_of_lt_of_le hk.2.1 hb.size, hk.2.2⟩)⟩
theorem OwnRows.own_lt {w : World} {b : Nat} {xss : List (List Int)} {v : Value} (h : OwnRows w b xss v) : ∀ k, v.ownBlock = some k → b ≤ k ∧ k < w.heap.size := by
  obtain ⟨cs, h1, _⟩ := h
  exact fun k hk => h1.lt k hk
theorem OwnRows.base {w : World} {b b' : Nat} {xss : List (List Int)} {v : Value} (h : OwnRows w b xss v) (hb : b' ≤ b) : OwnRows w b' xss v := by
  obtain ⟨cs, h1, h2⟩ := h
  refine ⟨cs, ⟨h1.1, ?_⟩, h2.keep (sameRefl _ _) (fun k hk => ⟨Nat.le_trans hb hk.1, hk.2⟩)⟩
  rcases h1.2 with h | ⟨g, cap, cur, e, hg, r⟩
  · exact .inl h
  · exact .inr ⟨g, cap, cur, e, Nat.le_trans hb hg, r⟩
theorem Owns.base {w : World} {b b' : Nat} {xs : List Int} {v : Value} (h : Owns w b xs v) (hb : b' ≤ b) : Owns w b' xs v := by
  refine ⟨⟨h.1.1, ?_⟩, h.2⟩
  rcases h.1.2 with h | ⟨g, cap, cur, e, hg, r⟩
  · exact .inl h
  · exact .inr ⟨g, cap, cur, e, Nat.le_trans hb hg, r⟩
theorem ints_grown {w w' : World} {v : Value} {g : Nat} {xs : List Int} {u : Value} (h : IntsR w (fun k => k = g) xs u) (hg : w.grownBy w' v.ownBlock) (h1 : g < w.heap.size) (h2 : some g ≠ v.ownBlock) : IntsR w' (fun _ => True) xs u :=
  h.keep (S := fun k => k = g) (fun p hp => World.cell?_of_block (hg.block p.block (by rw [hp]; exact h1) (by rw [hp]; exact h2))) (fun _ _ => trivial)
/-- What another call has made later is fresh. -/
theorem OwnRows.fresh {w w2 : World} {b b2 : Nat} {xss yss : List (List Int)} {v v2 : Value} (h : OwnRows w b xss v) (h2 : OwnRows w2 b2 yss v2) (hb : b ≤ b2) (hw : w.heap.size ≤ b2) : RowsR w2 (FreshIn b w2 v) yss v2 :=
  h2.rows.keep (sameRefl _ _) (fun k hk => ⟨Nat.le_trans hb hk.1, hk.2, fun e => by have := (h.own_lt k e.symm).2; omega⟩)
/-- One row, laid. -/
theorem rows_one {w2 : World} {b b2 : Nat} {xs : List Int} {v u : Value} (hu : Owns w2 b2 xs u) (hb : b ≤ b2) (hv : ∀ k, v.ownBlock = some k → k < b2) (h2 : b2 ≤ w2.heap.size) (g : Nat) (hg : g = w2.heap.size) (e : TypeId) :
    RowsR (w2.alloc (.cells #[u] e)) (FreshIn b (w2.alloc (.cells #[u] e)) v) [xs] (.slice (some ⟨g, 0, none⟩) 1 1) := by
  subst hg
  have hi : IntsR (w2.alloc (.cells #[u] e)) (FreshIn b (w2.alloc (.cells #[u] e)) v) xs u :=
    (hu.ints (S := fun k => b2 ≤ k ∧ k < w2.heap.size) (fun k h1 h2 => ⟨h1, h2⟩)).keep (fun p hp => (below_allocR _ _).cell hp.2)
      (fun k hk => ⟨Nat.le_trans hb hk.1, by simp; omega, fun e => by have := hv k e.symm; omega⟩)
  refine ⟨_, _, [u], rfl, Nat.le_refl _, by simp [maxLen], fun _ => ⟨w2.heap.size, 0, rfl, ⟨by omega, by simp, fun e => by have := hv _ e.symm; omega⟩, fun j x hx => ?_⟩, ListR.single (E := sliceE intE) ⟨u, rfl, hi⟩⟩
  rw [Nat.zero_add, World.cell?_alloc_new]
  simpa using hx

section
variable {w : World} {b : Nat} {xss yss : List (List Int)} {v : Value}
theorem rows_grown {w' : World} {v' : Value} {A : Option Addr} {m c : Nat} {cs rs : List Value} (h1 : w.ownsRow b 25 1 v xss.length cs) (h2 : ListR (sliceE intE) w (FreshIn b w v) xss cs) (hls : ListR (sliceE intE) w (FreshIn b w v) yss rs)
    (h3 : w'.ownsRow b 25 1 v' (xss.length + yss.length) (cs ++ rs)) (h4 : w.grownBy w' v.ownBlock) (h5 : v'.ownBlock = v.ownBlock ∨ v'.ownBlock = some w.heap.size) : OwnRows w' b (xss ++ yss) v' := by
  refine ⟨cs ++ rs, by rw [List.length_append]; exact h3, ?_⟩
  refine (h2.append hls).keep (S := FreshIn b w v) (fun p hp => World.cell?_of_block (h4.block p.block hp.2.1 hp.2.2)) (fun k hk => ⟨hk.1, Nat.lt_of_lt_of_le hk.2.1 h4.size, ?_⟩)
  rcases h5 with h5 | h5
  · rw [h5]; exact hk.2.2
  · rw [h5]; intro e; injection e with e; have := hk.2.1; omega

theorem app_rows {ops : Array Oper} {rest : List Oper} {o : Oper} {a : Act} {Q : Exit → Act → World → Prop} (hgd : o.guard = none) (s x : Operand)
    (ho : o.op = .call { callee := .builtin .append, args := #[s, x], argTypes := #[34, 34] })
    (b : Nat) (v : Value) (xss yss : List (List Int)) (hs : a.eval s = v) (hown : OwnRows w b xss v) (A : Option Addr) (m c : Nat) (hx : a.eval x = .slice A m c) (hr : RowsR w (FreshIn b w v) yss (.slice A m c))
    (hbound : xss.length + yss.length ≤ 1000000000) (hb : b ≤ w.heap.size)
    (h : ∀ v' w', OwnRows w' b (xss ++ yss) v' → Below b w w' → wpList Try.prog ops Q rest (a.put o.dst v') w') : wpList Try.prog ops Q (o :: rest) a w := by
  obtain ⟨i0, hi0, hz0, hz1, hz2⟩ := info_parts intsInfo
  obtain ⟨A', cap', rs, e, h1, h2, hrd, hls⟩ := hr
  injection e with e1 e2 e3
  subst e1 e2 e3
  obtain ⟨cs, ho1, ho2⟩ := hown
  have hl := hls.len
  refine wpList_append_any w hgd s x 34 ho b 25 i0 _ 1 24 Try.underlying34 hi0 hz0 hz1 hz2 rfl (by omega) v _ _ hs ho1 _ A _ c rs hx hl hrd hls.one (by simp only [maxLen]; omega) (by omega) hb ?_
  intro v' w' h3 h4 h5
  exact h v' w' (rows_grown (A := A) (m := 0) (c := 0) ho1 ho2 hls h3 h4 h5) (below_of_grown _ ho1 h4 hb)

theorem step_app_rows {ops : Array Oper} {o : Oper} {a : Act} {K : Act → World → Prop} {Q : Exit → Act → World → Prop} {E : Prop} (hgd : o.guard = none) (s x : Operand)
    (ho : o.op = .call { callee := .builtin .append, args := #[s, x], argTypes := #[34, 34] })
    (b : Nat) (v : Value) (xss yss : List (List Int)) (hs : a.eval s = v) (hown : OwnRows w b xss v) (A : Option Addr) (m c : Nat) (hx : a.eval x = .slice A m c) (hr : RowsR w (FreshIn b w v) yss (.slice A m c))
    (hbound : xss.length + yss.length ≤ 1000000000) (hb : b ≤ w.heap.size)
    (h : ∀ v' w', OwnRows w' b (xss ++ yss) v' → Below b w w' → K (a.put o.dst v') w') :
    if Region.wanted o (yielded ops a.tmps) = true then Oper.wp Try.prog o a w K Q else E := by
  obtain ⟨i0, hi0, hz0, hz1, hz2⟩ := info_parts intsInfo
  obtain ⟨A', cap', rs, e, h1, h2, hrd, hls⟩ := hr
  injection e with e1 e2 e3
  subst e1 e2 e3
  obtain ⟨cs, ho1, ho2⟩ := hown
  have hl := hls.len
  refine step_append_any w hgd s x 34 ho b 25 i0 _ 1 24 Try.underlying34 hi0 hz0 hz1 hz2 rfl (by omega) v _ _ hs ho1 _ A _ c rs hx hl hrd hls.one (by simp only [maxLen]; omega) (by omega) hb ?_
  intro v' w' h3 h4 h5
  exact h v' w' (rows_grown (A := A) (m := 0) (c := 0) ho1 ho2 hls h3 h4 h5) (below_of_grown _ ho1 h4 hb)

theorem step_app_intsR {ops : Array Oper} {o : Oper} {a : Act} {K : Act → World → Prop} {Q : Exit → Act → World → Prop} {E : Prop} (hgd : o.guard = none) (s x : Operand)
    (ho : o.op = .call { callee := .builtin .append, args := #[s, x], argTypes := #[25, 25] })
    (b : Nat) (v : Value) (xs ys : List Int) (hs : a.eval s = v) (hown : Owns w b xs v) (S : Nat → Prop) (A : Option Addr) (m c : Nat) (hx : a.eval x = .slice A m c) (hr : IntsR w S ys (.slice A m c))
    (hbound : xs.length + ys.length ≤ 1000000000) (hb : b ≤ w.heap.size)
    (h : ∀ v' w', Owns w' b (xs ++ ys) v' → Below b w w' → w.grownBy w' v.ownBlock → K (a.put o.dst v') w') :
    if Region.wanted o (yielded ops a.tmps) = true then Oper.wp Try.prog o a w K Q else E := by
  obtain ⟨i0, hi0, hz0, hz1, hz2⟩ := info_parts intInfo
  obtain ⟨A', cap', rs, e, h1, h2, hrd, hls⟩ := hr
  injection e with e1 e2 e3
  subst e1 e2 e3
  have hl := hls.len
  have hp := (listR_int.1 hls)
  refine step_append_any w hgd s x 25 ho b 3 i0 _ 1 8 Try.underlying25 hi0 hz0 hz1 hz2 rfl (by omega) v _ _ hs hown.1 S A _ c rs hx hl hrd hls.one (by simp only [maxLen]; omega) (by omega) hb ?_
  intro v' w' h3 h4 h5
  refine h v' w' ⟨?_, ?_⟩ (below_of_grown _ hown.1 h4 hb) h4
  · rw [List.length_append, List.map_append, ← hp.1]; exact h3
  · intro y hy
    rcases List.mem_append.1 hy with hy | hy
    · exact hown.2 y hy
    · exact hp.2 y hy
end
end Go.Proofs.Yteckkamlaibjbaa
