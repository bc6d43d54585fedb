/- Texts put together: TreeT, Repl, Fill, Spl. -/
import Derived.Test.YteckkamlaibjbaaApp
import Derived.Test.YteckkamlaibjbaaRowL
import Derived.Test.YteckkamlaibjbaaCuts
import Derived.Deep.RegionHeld3
import Derived.Deep.DeepCutAuto
import Derived.Deep.QuietTactic
import Derived.BigQuiet
import Derived.Test.YteckkamlaibjbaaNode6b
/- Rows of trees of the call's own, of items that lie in older memory; append; one item set. -/
set_option linter.unusedVariables false
set_option linter.unusedSimpArgs false
set_option maxRecDepth 100000
namespace Go.Proofs.Yteckkamlaibjbaa
open Go.RowKit

/-- The kind, the columns and the text of a node are data of the model's size. -/
def NodeOk (t : Tree) : Prop := In64 t.kind ∧ In64 t.cols ∧ t.text.size ≤ maxLen

theorem nodeInfo : (Try.prog.info? 24).map (fun i => (i.zero, i.size, i.bytes)) = some (some (.agg #[.int .i64 0, .string ⟨#[]⟩, .int .i64 0, .slice none 0 0]), 4, 56) := by kernel_rfl

/-- b: the blocks of the call's own begin; S: where the items' own memory lies. -/
def OwnT (w : World) (b : Nat) (S : Nat → Prop) (ts : List Tree) (v : Value) : Prop := ∃ cs, w.ownsRow b 24 4 v ts.length cs ∧ ListR treeE w S ts cs

theorem OwnT.rows {w : World} {b : Nat} {S : Nat → Prop} {ts : List Tree} {v : Value} (h : OwnT w b S ts v) (hB : ∀ k, S k → k < w.heap.size) : SliceR treeE w (Lt w.heap.size) ts v := by
  obtain ⟨cs, h1, h2⟩ := h
  exact SliceR.of_own (E := treeE) h1 (fun k hk => (h1.lt k hk).2) (h2.keep (sameRefl _ _) hB)
theorem OwnT.empty (w : World) (S : Nat → Prop) : OwnT (w.alloc (.cells #[] 24)) w.heap.size S [] (.slice (some ⟨w.heap.size, 0, none⟩) 0 0) :=
  ⟨[], World.ownsRow_made (base := w.heap.size) (e := 24) (size := 4) w #[] 0 (Nat.le_refl _) (Nat.zero_le _) rfl, rfl⟩
theorem OwnT.below {w w' : World} {b : Nat} {S : Nat → Prop} {ts : List Tree} {v : Value} (h : OwnT w b S ts v) (hB : ∀ k, S k → k < w.heap.size) (hb : Below w.heap.size w w') : OwnT w' b S ts v := by
  obtain ⟨cs, h1, h2⟩ := h
  exact ⟨cs, owns_below _ h1 hb, h2.keep (fun p hp => hb.cell (hB _ hp)) (fun _ h => h)⟩
theorem OwnT.form {w : World} {b : Nat} {S : Nat → Prop} {ts : List Tree} {v : Value} (h : OwnT w b S ts v) : ∃ A c, v = .slice A ts.length c := by
  obtain ⟨cs, ⟨_, h1⟩, _⟩ := h
  rcases h1 with ⟨rfl, h0⟩ | ⟨g, cap, cur, rfl, _⟩
  · exact ⟨none, 0, by rw [h0]⟩
  · exact ⟨_, _, rfl⟩
theorem OwnT.some_ {w : World} {b : Nat} {S : Nat → Prop} {ts : List Tree} {v : Value} (h : OwnT w b S ts v) (h0 : 0 < ts.length) : ∃ g c, v = .slice (some ⟨g, 0, none⟩) ts.length c ∧ b ≤ g ∧ g < w.heap.size ∧ ∀ j, j < ts.length * 4 → (∃ u, w.cell? ⟨g, j, none⟩ = some u) ∧ w.frozen? ⟨g, j, none⟩ = false := by
  obtain ⟨cs, ⟨hl, h1⟩, _⟩ := h
  rcases h1 with ⟨rfl, h1⟩ | ⟨g, cap, cur, rfl, hg, hh, hn, hm, hc, hx⟩
  · omega
  · refine ⟨g, cap, rfl, hg, (Array.getElem?_eq_some_iff.1 hh).1, fun j hj => ⟨⟨cur[j]'(by rw [hc]; have : ts.length * 4 ≤ cap * 4 := Nat.mul_le_mul_right _ hn; omega), ?_⟩, ?_⟩⟩
    · rw [cell_of_row w g j cur _ (0, 0) hh]
      exact Array.getElem?_eq_getElem _
    · simp [World.frozen?, hh]

section
variable {w : World} {b : Nat} {S : Nat → Prop} {xss yss : List Tree} {v : Value}
theorem ownT_grown {w' : World} {v' : Value} {cs rs : List Value} (hBb : ∀ k, S k → k < b) (h2 : ListR treeE w S xss cs) (hls : ListR treeE w S yss rs)
    (h3 : w'.ownsRow b 24 4 v' (xss.length + yss.length) (cs ++ rs)) (hb : Below b w w') : OwnT w' b S (xss ++ yss) v' :=
  ⟨cs ++ rs, by rw [List.length_append]; exact h3, (h2.append hls).keep (fun p hp => hb.cell (hBb _ hp)) (fun _ h => h)⟩

theorem appT {ops : Array Oper} {rest : List Oper} {o : Oper} {a : Act} {Q : Exit → Act → World → Prop} (hgd : o.guard = none) (s x : Operand)
    (ho : o.op = .call { callee := .builtin .append, args := #[s, x], argTypes := #[22, 22] })
    (b : Nat) (S : Nat → Prop) (hBb : ∀ k, S k → k < b) (v : Value) (xss yss : List Tree) (hs : a.eval s = v) (hown : OwnT w b S xss v) (A : Option Addr) (m c : Nat) (hx : a.eval x = .slice A m c) (hr : SliceR treeE w S yss (.slice A m c))
    (hbound : xss.length + yss.length ≤ 1000000000) (hb : b ≤ w.heap.size)
    (h : ∀ v' w', OwnT w' b S (xss ++ yss) v' → Below b w w' → wpList Try.prog ops Q rest (a.put o.dst v') w') : wpList Try.prog ops Q (o :: rest) a w := by
  obtain ⟨i0, hi0, hz0, hz1, hz2⟩ := info_parts nodeInfo
  obtain ⟨A', cap', rs, e, h1, h2, hrd, hls⟩ := hr
  injection e with e1 e2 e3
  subst e1 e2 e3
  obtain ⟨cs, ho1, ho2⟩ := hown
  have hl := hls.len
  refine wpList_append_any w hgd s x 22 ho b 24 i0 _ 4 56 Try.underlying22 hi0 hz0 hz1 hz2 rfl (by omega) v _ _ hs ho1 _ A _ c rs hx hl hrd hls.one (by simp only [maxLen]; omega) (by omega) hb ?_
  intro v' w' h3 h4 h5
  have hbb := below_of_grown _ ho1 h4 hb
  exact h v' w' (ownT_grown hBb ho2 hls h3 hbb) hbb

theorem step_appT {ops : Array Oper} {o : Oper} {a : Act} {K : Act → World → Prop} {Q : Exit → Act → World → Prop} {E : Prop} (hgd : o.guard = none) (s x : Operand)
    (ho : o.op = .call { callee := .builtin .append, args := #[s, x], argTypes := #[22, 22] })
    (b : Nat) (S : Nat → Prop) (hBb : ∀ k, S k → k < b) (v : Value) (xss yss : List Tree) (hs : a.eval s = v) (hown : OwnT w b S xss v) (A : Option Addr) (m c : Nat) (hx : a.eval x = .slice A m c) (hr : SliceR treeE w S yss (.slice A m c))
    (hbound : xss.length + yss.length ≤ 1000000000) (hb : b ≤ w.heap.size)
    (h : ∀ v' w', OwnT w' b S (xss ++ yss) v' → Below b w w' → K (a.put o.dst v') w') :
    if Region.wanted o (yielded ops a.tmps) = true then Oper.wp Try.prog o a w K Q else E := by
  obtain ⟨i0, hi0, hz0, hz1, hz2⟩ := info_parts nodeInfo
  obtain ⟨A', cap', rs, e, h1, h2, hrd, hls⟩ := hr
  injection e with e1 e2 e3
  subst e1 e2 e3
  obtain ⟨cs, ho1, ho2⟩ := hown
  have hl := hls.len
  refine step_append_any w hgd s x 22 ho b 24 i0 _ 4 56 Try.underlying22 hi0 hz0 hz1 hz2 rfl (by omega) v _ _ hs ho1 _ A _ c rs hx hl hrd hls.one (by simp only [maxLen]; omega) (by omega) hb ?_
  intro v' w' h3 h4 h5
  have hbb := below_of_grown _ ho1 h4 hb
  exact h v' w' (ownT_grown hBb ho2 hls h3 hbb) hbb
end

/-- Four cells of a block, from o on, set one after the other. -/
theorem fourAt {w : World} {b o : Nat} {x0 x1 x2 x3 : Value} (d0 : w.cell? ⟨b, o, none⟩ = some x0) (d1 : w.cell? ⟨b, o + 1, none⟩ = some x1) (d2 : w.cell? ⟨b, o + 2, none⟩ = some x2) (d3 : w.cell? ⟨b, o + 3, none⟩ = some x3) (y0 y1 y2 y3 : Value) {W : World}
    (hW : W = (((w.setCell ⟨b, o, none⟩ y0).setCell ⟨b, o + 1, none⟩ y1).setCell ⟨b, o + 2, none⟩ y2).setCell ⟨b, o + 3, none⟩ y3) :
    (W.cell? ⟨b, o, none⟩ = some y0 ∧ W.cell? ⟨b, o + 1, none⟩ = some y1 ∧ W.cell? ⟨b, o + 2, none⟩ = some y2 ∧ W.cell? ⟨b, o + 3, none⟩ = some y3) ∧ W.heap.size = w.heap.size ∧ (∀ B a, B ≤ b → Below B a w → Below B a W) ∧
    (∀ p : Addr, p.block ≠ b → W.cell? p = w.cell? p) ∧ (∀ j, j < o ∨ o + 4 ≤ j → W.cell? ⟨b, j, none⟩ = w.cell? ⟨b, j, none⟩) ∧ (∀ p : Addr, W.frozen? p = w.frozen? p) := by
  have ne : ∀ (i j : Nat), i ≠ j → (⟨b, i, none⟩ : Addr) ≠ ⟨b, j, none⟩ := fun i j h e => h (by injection e)
  have f : ∀ (p : Addr) (j : Nat), p.block ≠ b → (⟨b, j, none⟩ : Addr) ≠ p := fun p j h e => h (by rw [← e])
  subst hW
  refine ⟨⟨?_, ?_, ?_, ?_⟩, by simp [World.setCell], fun B a hB h => (((h.setCell hB _).setCell hB _).setCell hB _).setCell hB _, fun p hp => ?_, fun j hj => ?_, fun p => ?_⟩
  · rw [World.cell?_setCell_other (h := ne _ _ (by omega)), World.cell?_setCell_other (h := ne _ _ (by omega)), World.cell?_setCell_other (h := ne _ _ (by omega)), World.cell?_setCell_same (h := d0)]
  · rw [World.cell?_setCell_other (h := ne _ _ (by omega)), World.cell?_setCell_other (h := ne _ _ (by omega))]
    exact World.cell?_setCell_same _ _ _ (by rw [World.cell?_setCell_other (h := ne _ _ (by omega))]; exact d1)
  · rw [World.cell?_setCell_other (h := ne _ _ (by omega))]
    exact World.cell?_setCell_same _ _ _ (by rw [World.cell?_setCell_other (h := ne _ _ (by omega)), World.cell?_setCell_other (h := ne _ _ (by omega))]; exact d2)
  · exact World.cell?_setCell_same _ _ _ (by rw [World.cell?_setCell_other (h := ne _ _ (by omega)), World.cell?_setCell_other (h := ne _ _ (by omega)), World.cell?_setCell_other (h := ne _ _ (by omega))]; exact d3)
  · rw [World.cell?_setCell_other (h := f p _ hp), World.cell?_setCell_other (h := f p _ hp), World.cell?_setCell_other (h := f p _ hp), World.cell?_setCell_other (h := f p _ hp)]
  · rw [World.cell?_setCell_other (h := ne _ _ (by omega)), World.cell?_setCell_other (h := ne _ _ (by omega)), World.cell?_setCell_other (h := ne _ _ (by omega)), World.cell?_setCell_other (h := ne _ _ (by omega))]
  · rw [World.frozen?_setCell, World.frozen?_setCell, World.frozen?_setCell, World.frozen?_setCell]

/-- One item of an own row is another. -/
theorem OwnT.put_ {w Y : World} {b g n c i : Nat} {S : Nat → Prop} {ts : List Tree} {k : Tree} {u : Value} (h : OwnT w b S ts (.slice (some ⟨g, 0, none⟩) n c)) (hi : i < ts.length) (hk : NodeOk k) (hkv : SliceR treeE Y S k.kids u) (hY : Same S w Y)
    (d0 : Y.cell? ⟨g, i * 4, none⟩ = some (.int .i64 k.kind)) (d1 : Y.cell? ⟨g, i * 4 + 1, none⟩ = some (.string k.text)) (d2 : Y.cell? ⟨g, i * 4 + 2, none⟩ = some (.int .i64 k.cols)) (d3 : Y.cell? ⟨g, i * 4 + 3, none⟩ = some u)
    (ho : ∀ j, j < i * 4 ∨ i * 4 + 4 ≤ j → Y.cell? ⟨g, j, none⟩ = w.cell? ⟨g, j, none⟩) : SliceR treeE Y (fun q => S q ∨ q = g) (ts.set i k) (.slice (some ⟨g, 0, none⟩) n c) := by
  obtain ⟨cs, h1, h2⟩ := h
  have hlen := h2.len
  have h3 : SliceR treeE w (fun q => S q ∨ q = g) ts (.slice (some ⟨g, 0, none⟩) n c) := SliceR.of_own (E := treeE) h1 (fun q hq => by simp [Value.ownBlock] at hq; exact .inr hq.symm) (h2.keep (sameRefl _ _) (fun q hq => .inl hq))
  obtain ⟨A', c', cs', e, h4, h5, h6, h7⟩ := h3
  injection e with e1 e2 e3
  subst e1 e2 e3
  have hk2 : ListR treeE Y (fun q => S q ∨ q = g) ts cs := h2.keep hY (fun q hq => .inl hq)
  have hr : ∀ j x, cs[j]? = some x → w.cell? ⟨g, j, none⟩ = some x := fun j x hx => by
    rcases h1.2 with ⟨e, _⟩ | ⟨g', cap, cur, e, hg, hh, p1, p2, p3, p4⟩
    · cases e
    · injection e with e1 _ _
      injection e1 with e1
      injection e1 with e1 _ _
      subst e1
      rw [cell_of_row w g j cur _ (0, 0) hh]
      rw [← p4, List.getElem?_take] at hx
      split at hx
      · simpa using hx
      · cases hx
  have hE : treeE.size = 4 := rfl
  rw [hE] at hlen
  have hnew : ListR treeE Y (fun q => S q ∨ q = g) (ts.take i ++ k :: ts.drop (i + 1)) (cs.take (i * 4) ++ ([.int .i64 k.kind, .string k.text, .int .i64 k.cols, u] ++ cs.drop ((i + 1) * 4))) := by
    refine (hk2.take i).append ⟨_, _, rfl, treeR_mk.2 ⟨u, rfl, hk.1, hk.2.1, hk.2.2, hkv.keep (sameRefl _ _) (fun q hq => .inl hq)⟩, hk2.drop (i + 1)⟩
  have hset : ts.set i k = ts.take i ++ k :: ts.drop (i + 1) := List.set_eq_take_append_cons_drop.trans (if_pos hi)
  rw [hset]
  refine ⟨some ⟨g, 0, none⟩, c, _, by rw [← hset, List.length_set], by rw [← hset, List.length_set]; exact h4, h5, fun _ => ⟨g, 0, rfl, .inr rfl, fun j x hx => ?_⟩, hnew⟩
  rw [Nat.zero_add]
  have hl1 : (cs.take (i * 4)).length = i * 4 := by rw [List.length_take]; omega
  rcases Nat.lt_or_ge j (i * 4) with hj | hj
  · rw [List.getElem?_append_left (by omega), List.getElem?_take, if_pos hj] at hx
    rw [ho j (.inl hj)]
    exact hr j x hx
  · rw [List.getElem?_append_right (by omega), hl1] at hx
    rcases Nat.lt_or_ge j (i * 4 + 4) with hj2 | hj2
    · rw [List.getElem?_append_left (by simp; omega)] at hx
      obtain ⟨q, rfl⟩ : ∃ q, j = i * 4 + q := ⟨j - i * 4, by omega⟩
      rw [Nat.add_sub_cancel_left] at hx
      match q, hx, hj2 with
      | 0, hx, _ => cases hx; exact d0
      | 1, hx, _ => cases hx; exact d1
      | 2, hx, _ => cases hx; exact d2
      | 3, hx, _ => cases hx; exact d3
    · rw [List.getElem?_append_right (by simp; omega)] at hx
      rw [ho j (.inr hj2)]
      refine hr j x ?_
      rw [List.getElem?_drop] at hx
      rw [← hx]
      congr 1
      simp
      omega
end Go.Proofs.Yteckkamlaibjbaa
/- ref09.Replaced. -/
set_option linter.unusedVariables false
set_option linter.unusedSimpArgs false
set_option maxRecDepth 100000
namespace Go.Proofs.Yteckkamlaibjbaa
open Go.RowKit

theorem blA (w : World) (o : Obj) : Below w.heap.size w (w.alloc o) := (Below.refl _ _).alloc (Nat.le_refl _) _
theorem blAlloc {W X : World} (h : Below W.heap.size W X) (o : Obj) : Below W.heap.size W (X.alloc o) := h.alloc h.size o
theorem blCall {W X Y : World} (h : Below W.heap.size W X) (hb : Below X.heap.size X Y) : Below W.heap.size W Y := h.trans (hb.mono h.size)
theorem newC (W : World) (arr : Array Value) (T : TypeId) (b o : Nat) (hb : b = W.heap.size) : (W.alloc (.cells arr T)).cell? ⟨b, o, none⟩ = arr[o]? := by subst hb; exact World.cell?_alloc_new _ _ _ _
theorem newF (W : World) (arr : Array Value) (T : TypeId) (b o : Nat) (hb : b = W.heap.size) : (W.alloc (.cells arr T)).frozen? ⟨b, o, none⟩ = false := by subst hb; exact World.frozen?_alloc_new _ _ _ _
theorem oldC (W : World) (B : Obj) (b o : Nat) (x : Option Value) (hb : b < W.heap.size) (h : W.cell? ⟨b, o, none⟩ = x) : (W.alloc B).cell? ⟨b, o, none⟩ = x := ((blA W B).cell (p := ⟨b, o, none⟩) hb).trans h
theorem oldF (W : World) (B : Obj) (b o : Nat) (hb : b < W.heap.size) (h : W.frozen? ⟨b, o, none⟩ = false) : (W.alloc B).frozen? ⟨b, o, none⟩ = false := ((blA W B).frozen (p := ⟨b, o, none⟩) hb).trans h
theorem cellLt {w : World} {a : Addr} {v : Value} (h : w.cell? a = some v) : a.block < w.heap.size := by
  rcases Nat.lt_or_ge a.block w.heap.size with h1 | h1
  · exact h1
  · simp [World.cell?, Array.getElem?_eq_none h1] at h

/-- A tree as the result. -/
def TreeP (S : Nat → Prop) (w : World) (t : Tree) (e : Ending) (w' : World) : Prop :=
  ∃ v, e = .returned (.agg #[.int .i64 t.kind, .string t.text, .int .i64 t.cols, v]) ∧ SliceR treeE w' (fun q => S q ∨ w.heap.size ≤ q ∧ q < w'.heap.size) t.kids v ∧ Below w.heap.size w w'
def replS (t : Tree) (i : Nat) (k : Tree) : Tree := .mk t.kind t.text t.cols (t.kids.set i k)

/-- A node's four cells. -/
def Box4 (W : World) (b : Nat) (k : Int) (s : ByteArray) (c : Int) (v : Value) : Prop :=
  W.cell? ⟨b, 0, none⟩ = some (.int .i64 k) ∧ W.cell? ⟨b, 1, none⟩ = some (.string s) ∧ W.cell? ⟨b, 2, none⟩ = some (.int .i64 c) ∧ W.cell? ⟨b, 3, none⟩ = some v
theorem Box4.keep {W W' : World} {b : Nat} {k : Int} {s : ByteArray} {c : Int} {v : Value} (h : Box4 W b k s c v) (hk : ∀ o, W'.cell? ⟨b, o, none⟩ = W.cell? ⟨b, o, none⟩) : Box4 W' b k s c v :=
  ⟨(hk 0).trans h.1, (hk 1).trans h.2.1, (hk 2).trans h.2.2.1, (hk 3).trans h.2.2.2⟩
theorem Box4.below {W W' : World} {B b : Nat} {k : Int} {s : ByteArray} {c : Int} {v : Value} (h : Box4 W b k s c v) (hb : Below B W W') (hB : b < B) : Box4 W' b k s c v := h.keep fun o => hb.cell (p := ⟨b, o, none⟩) hB
theorem Box4.new (w : World) (k : Int) (s : ByteArray) (c : Int) (v : Value) (T : TypeId) : Box4 (w.alloc (Obj.cells #[.int .i64 k, .string s, .int .i64 c, v] T)) w.heap.size k s c v := by
  refine ⟨?_, ?_, ?_, ?_⟩ <;> rw [World.cell?_alloc_new] <;> rfl
def Free4 (W : World) (b : Nat) : Prop := W.frozen? ⟨b, 0, none⟩ = false ∧ W.frozen? ⟨b, 1, none⟩ = false ∧ W.frozen? ⟨b, 2, none⟩ = false ∧ W.frozen? ⟨b, 3, none⟩ = false
theorem Free4.new (w : World) (arr : Array Value) (T : TypeId) : Free4 (w.alloc (Obj.cells arr T)) w.heap.size :=
  ⟨newF _ _ _ _ _ rfl, newF _ _ _ _ _ rfl, newF _ _ _ _ _ rfl, newF _ _ _ _ _ rfl⟩
theorem Free4.below {W W' : World} {B b : Nat} (h : Free4 W b) (hb : Below B W W') (hB : b < B) : Free4 W' b :=
  ⟨(hb.frozen (p := ⟨b, 0, none⟩) hB).trans h.1, (hb.frozen (p := ⟨b, 1, none⟩) hB).trans h.2.1, (hb.frozen (p := ⟨b, 2, none⟩) hB).trans h.2.2.1, (hb.frozen (p := ⟨b, 3, none⟩) hB).trans h.2.2.2⟩

set_option maxHeartbeats 4000000 in
theorem replaced_any (t k : Tree) (i : Nat) (A B : Option Addr) (cap cb : Nat) (w : World) (S : Nat → Prop) (hS : ∀ q, S q → q < w.heap.size) (hi : i < t.kids.length) (hlen : t.kids.length ≤ 1000000) (hk : NodeOk k) (hv : SliceR treeE w S t.kids (.slice A t.kids.length cap)) (hkv : SliceR treeE w S k.kids (.slice B k.kids.length cb)) :
    Calls Try.prog 56 #[.agg #[.int .i64 t.kind, .string t.text, .int .i64 t.cols, .slice A t.kids.length cap], .int .i64 i, .agg #[.int .i64 k.kind, .string k.text, .int .i64 k.cols, .slice B k.kids.length cb]] w (TreeP S w (replS t i k)) := by
  obtain ⟨tk, tx, tc, ts⟩ := t
  have HK : Hid (NodeOk k) := hk
  clear hk
  obtain ⟨kk, kx, kc, ks⟩ := k
  simp only [Tree.kind, Tree.text, Tree.cols, Tree.kids, replS] at *
  have HV := hid hv
  have HKV := hid hkv
  have HI := hid hi
  generalize hW0 : ((w.alloc (Obj.cells #[.int .i64 tk, .string tx, .int .i64 tc, .slice A ts.length cap] 24)).alloc (Obj.cells #[.int .i64 kk, .string kx, .int .i64 kc, .slice B ks.length cb] 24)).alloc (Obj.cells #[.int .i64 0, .string ⟨#[]⟩, .int .i64 0, .slice none 0 0] 24) = W0
  have hz0 : W0.heap.size = w.heap.size + 1 + 1 + 1 := by rw [← hW0]; simp
  have hB0 : Below w.heap.size w W0 := by rw [← hW0]; exact blAlloc (blAlloc (blA _ _) _) _
  have hbT : Box4 W0 w.heap.size tk tx tc (.slice A ts.length cap) := by
    rw [← hW0]
    exact ((Box4.new w _ _ _ _ _).below (blA _ _) (by simp)).below (blA _ _) (by simp; omega)
  have hbK : Box4 W0 (w.heap.size + 1) kk kx kc (.slice B ks.length cb) := by
    rw [← hW0]
    have h := (Box4.new (w.alloc (Obj.cells #[.int .i64 tk, .string tx, .int .i64 tc, .slice A ts.length cap] 24)) kk kx kc (.slice B ks.length cb) 24).below (blA _ (Obj.cells #[.int .i64 0, .string ⟨#[]⟩, .int .i64 0, .slice none 0 0] 24)) (by simp)
    simpa using h
  have hbR : Box4 W0 (w.heap.size + 1 + 1) 0 ⟨#[]⟩ 0 (.slice none 0 0) ∧ Free4 W0 (w.heap.size + 1 + 1) := by
    rw [← hW0]
    have h := Box4.new ((w.alloc (Obj.cells #[.int .i64 tk, .string tx, .int .i64 tc, .slice A ts.length cap] 24)).alloc (Obj.cells #[.int .i64 kk, .string kx, .int .i64 kc, .slice B ks.length cb] 24)) 0 ⟨#[]⟩ 0 (.slice none 0 0) 24
    have h2 := Free4.new ((w.alloc (Obj.cells #[.int .i64 tk, .string tx, .int .i64 tc, .slice A ts.length cap] 24)).alloc (Obj.cells #[.int .i64 kk, .string kx, .int .i64 kc, .slice B ks.length cb] 24)) #[.int .i64 0, .string ⟨#[]⟩, .int .i64 0, .slice none 0 0] 24
    exact ⟨by simpa using h, by simpa using h2⟩
  have hfT : Free4 W0 w.heap.size := by
    rw [← hW0]
    exact ((Free4.new w _ _).below (blA _ _) (by simp)).below (blA _ _) (by simp; omega)
  have HB0 := hid hB0
  have HBT := hid hbT
  have HBK := hid hbK
  have HBR := hid hbR
  have HFT := hid hfT
  have HZ0 := hid hz0
  have m3 := oldC W0 (.cells #[] 24) _ _ _ (by omega) hbT.2.2.2
  have f3 := oldF W0 (.cells #[] 24) _ _ (by omega) hfT.2.2.2
  have HOE := hid (OwnT.empty W0 S)
  have HSS := hid hS
  have HSRC := hid (hv.keep (w' := W0.alloc (.cells #[] 24)) (fun q hq => (blAlloc hB0 _).cell (hS _ hq)) (fun _ h => h))
  have HT0 : Hid (w.heap.size < W0.heap.size) := by show _ < _; omega
  have HPOS : Hid (0 < ts.length) := by show _ < _; omega
  have HLE : Hid (w.heap.size ≤ W0.heap.size) := by show _ ≤ _; omega
  clear hS hv hkv hB0 hbT hbK hbR hfT hi hz0
  go_enter Try.func56, Try.ntmps56
  go_upto_region 2 with first
    | (refine appT rfl (.tmp 7) (.tmp 9) rfl W0.heap.size S (fun q hq => Nat.lt_of_lt_of_le (HSS.out q hq) HLE.out) _ [] ts rfl HOE.out A ts.length cap rfl HSRC.out (by simp; omega) (by simp) ?_
       intro v1 W1 ho1 hb1
       rw [List.nil_append] at ho1
       have HB1 := hid ((blA W0 (.cells #[] 24)).trans (hb1.mono (Nat.le_refl _)))
       obtain ⟨g, n1, rfl, hg1, hg2, hcells⟩ := ho1.some_ HPOS.out
       have HO1 := hid ho1
       have HG1 := hid hg1
       have HG2 := hid hg2
       have HCL := hid hcells
       have q3 := (HBT.out.below HB1.out HT0.out).2.2.2
       have g3 := (HFT.out.below HB1.out HT0.out).2.2.2
       clear ho1 hb1 hg1 hg2 hcells m3 f3)
  have ht0 := HT0.out
  obtain ⟨X, hX⟩ : ∃ X, W1.setCell ⟨w.heap.size, 3, none⟩ (.slice (some ⟨g, 0, none⟩) ts.length n1) = X := ⟨_, rfl⟩
  rw [hX]
  have hXs : X.heap.size = W1.heap.size := by rw [← hX]; simp [World.setCell]
  have hXo : ∀ p : Addr, p.block ≠ w.heap.size → X.cell? p = W1.cell? p := fun p hp => by rw [← hX]; exact World.cell?_setCell_other _ _ _ _ (fun e => hp (by rw [← e]))
  have hXf : ∀ p : Addr, X.frozen? p = W1.frozen? p := fun p => by rw [← hX]; exact World.frozen?_setCell _ _ _ _
  have hXB : Below w.heap.size w X := by rw [← hX]; exact (HB0.out.trans (HB1.out.mono HLE.out)).setCell (Nat.le_refl _) _
  have x3 : X.cell? ⟨w.heap.size, 3, none⟩ = some (.slice (some ⟨g, 0, none⟩) ts.length n1) := by rw [← hX]; exact World.cell?_setCell_same _ _ _ q3
  have ⟨y0, y1, y2, _⟩ := HBT.out.below HB1.out HT0.out
  have x0 : X.cell? ⟨w.heap.size, 0, none⟩ = some (.int .i64 tk) := by rw [← hX]; exact (World.cell?_setCell_other _ _ _ _ (by simp)).trans y0
  have x1 : X.cell? ⟨w.heap.size, 1, none⟩ = some (.string tx) := by rw [← hX]; exact (World.cell?_setCell_other _ _ _ _ (by simp)).trans y1
  have x2 : X.cell? ⟨w.heap.size, 2, none⟩ = some (.int .i64 tc) := by rw [← hX]; exact (World.cell?_setCell_other _ _ _ _ (by simp)).trans y2
  have hgz := HZ0.out
  have hg1 := HG1.out
  have hg2 := HG2.out
  obtain ⟨k0, k1, k2, k3⟩ := (HBK.out.below HB1.out (by omega)).keep (fun o => hXo ⟨w.heap.size + 1, o, none⟩ (by simp))
  have HRX : Hid (Box4 X (w.heap.size + 1 + 1) 0 ⟨#[]⟩ 0 (.slice none 0 0)) := (HBR.out.1.below HB1.out (by omega)).keep (fun o => hXo ⟨w.heap.size + 1 + 1, o, none⟩ (by simp; omega))
  have hfr := HBR.out.2.below HB1.out (by omega)
  have hcx : ∀ j, j < 4 → (∃ u, X.cell? ⟨g, i * 4 + j, none⟩ = some u) ∧ X.frozen? ⟨g, i * 4 + j, none⟩ = false := fun j hj => by
    obtain ⟨⟨u, h1⟩, h2⟩ := HCL.out (i * 4 + j) (by have := HI.out; omega)
    exact ⟨⟨u, (hXo ⟨g, i * 4 + j, none⟩ (by show g ≠ _; omega)).trans h1⟩, (hXf _).trans h2⟩
  obtain ⟨⟨u0, s0⟩, l0⟩ := hcx 0 (by omega)
  obtain ⟨⟨u1, s1⟩, l1⟩ := hcx 1 (by omega)
  obtain ⟨⟨u2, s2⟩, l2⟩ := hcx 2 (by omega)
  obtain ⟨⟨u3, s3⟩, l3⟩ := hcx 3 (by omega)
  rw [Nat.add_zero] at s0 l0
  have HXO := hid hXo
  have HXF := hid hXf
  have HXB := hid hXB
  have HX4 : Hid (Box4 X w.heap.size tk tx tc (.slice (some ⟨g, 0, none⟩) ts.length n1)) := ⟨x0, x1, x2, x3⟩
  have HFR := hid hfr
  have HXS := hid hXs
  clear hXo hXf hXB hX hcx y0 y1 y2 q3 g3 hfr hgz hg1 hg2 ht0 hXs
  have i5 : (0 : Int) ≤ (i : Int) := by omega
  have i6 : (i : Int) < (ts.length : Int) := by have := HI.out; omega
  go_upto_region 3 with fail
  generalize hY : ((((X.setCell _ (.int .i64 kk)).setCell _ (.string kx)).setCell _ (.int .i64 kc)).setCell _ (.slice B ks.length cb)) = Y
  obtain ⟨⟨d0, d1, d2, d3⟩, hYs, hYB, hYo, hYr, hYf⟩ := fourAt s0 s1 s2 s3 _ _ _ _ hY.symm
  have hg1 := HG1.out
  have hz0 := HZ0.out
  have HKX := hid (HKV.out.keep (w' := Y) (fun q hq => (hYo q (by have : q.block < w.heap.size := HSS.out _ hq; omega)).trans (HXB.out.cell (HSS.out _ hq))) (fun _ h => h))
  have HSET : Hid (SliceR treeE Y (fun q => S q ∨ q = g) (ts.set i (Tree.mk kk kx kc ks)) (.slice (some ⟨g, 0, none⟩) ts.length n1)) := OwnT.put_ HO1.out HI.out HK.out HKX.out (fun q hq => by have h9 : q.block < w.heap.size := HSS.out _ hq; exact (hYo q (by omega)).trans (HXO.out q (by omega))) d0 d1 d2 d3 (fun j hj => (hYr j hj).trans (HXO.out _ (by show g ≠ _; omega)))
  obtain ⟨z0, z1, z2, z3⟩ := HX4.out.keep (fun o => hYo ⟨w.heap.size, o, none⟩ (by show w.heap.size ≠ g; omega))
  have HRY := HRX.out.keep (fun o => hYo ⟨w.heap.size + 1 + 1, o, none⟩ (by show w.heap.size + 1 + 1 ≠ g; omega))
  have HRY' := hid HRY
  obtain ⟨r0, r1, r2, r3⟩ := HRY
  obtain ⟨p0, p1, p2, p3⟩ := HFR.out
  have hfY : ∀ o, W1.frozen? ⟨w.heap.size + 1 + 1, o, none⟩ = false → Y.frozen? ⟨w.heap.size + 1 + 1, o, none⟩ = false := fun o h => (hYf _).trans ((HXF.out _).trans h)
  replace p0 := hfY _ p0
  replace p1 := hfY _ p1
  replace p2 := hfY _ p2
  replace p3 := hfY _ p3
  have HYB := hid (hYB w.heap.size w (by omega) HXB.out)
  have hYZ : Hid (g < Y.heap.size ∧ w.heap.size < Y.heap.size) := by show _ ∧ _; have := HG2.out; have := HXS.out; omega
  clear hY hYs hYB hYo hYr hYf d0 d1 d2 d3 s0 s1 s2 s3 l0 l1 l2 l3 x0 x1 x2 x3 k0 k1 k2 k3 hfY hz0
  go_wp2_with fail
  generalize hZ : ((((Y.setCell _ (.int .i64 tk)).setCell _ (.string tx)).setCell _ (.int .i64 tc)).setCell _ (.slice (some ⟨g, 0, none⟩) ts.length n1)) = Z
  obtain ⟨⟨e0, e1, e2, e3⟩, hZs, hZB, hZo, _, _⟩ := fourAt (o := 0) HRY'.out.1 HRY'.out.2.1 HRY'.out.2.2.1 HRY'.out.2.2.2 _ _ _ _ hZ.symm
  simp only [Nat.zero_add] at e1 e2 e3
  have HZB := hid (hZB w.heap.size w (by omega) HYB.out)
  have HZO := hid hZo
  have HZS := hid hZs
  clear hZ hZs hZB hZo
  refine bodyPost_ret (v := .agg #[.int .i64 tk, .string tx, .int .i64 tc, .slice (some ⟨g, 0, none⟩) ts.length n1]) (by simp [results, Try.results56, go_sem, e0, e1, e2, e3]) rfl ?_
  refine ⟨_, rfl, HSET.out.keep (fun q hq => HZO.out q ?_) (fun q hq => ?_), HZB.out⟩
  · have h9 : S q.block ∨ q.block = g := hq
    have := HZ0.out
    rcases h9 with h9 | h9
    · have := HSS.out _ h9
      omega
    · omega
  · have h9 : S q ∨ q = g := hq
    have := hYZ.out
    have := HZS.out
    have := HG1.out
    have := HZ0.out
    rcases h9 with h9 | h9
    · exact .inl h9
    · exact .inr ⟨by omega, by omega⟩
end Go.Proofs.Yteckkamlaibjbaa
/- ref12.filled. -/
set_option linter.unusedVariables false
set_option linter.unusedSimpArgs false
set_option maxRecDepth 100000
namespace Go.Proofs.Yteckkamlaibjbaa
open Go.RowKit

theorem OwnT.rowsN {w : World} {b : Nat} {S : Nat → Prop} {ts : List Tree} {v : Value} (h : OwnT w b S ts v) : SliceR treeE w (fun q => S q ∨ b ≤ q ∧ q < w.heap.size) ts v := by
  obtain ⟨cs, h1, h2⟩ := h
  exact SliceR.of_own (E := treeE) h1 (fun k hk => .inr (h1.lt k hk)) (h2.keep (sameRefl _ _) (fun _ h => .inl h))
theorem newer {w w' : World} {S : Nat → Prop} {b : Nat} {l : List Tree} {v : Value} (h : SliceR treeE w (fun q => S q ∨ b ≤ q ∧ q < w.heap.size) l v) (hS : ∀ q, S q → q < w.heap.size) (hb : Below w.heap.size w w') : SliceR treeE w' (fun q => S q ∨ b ≤ q ∧ q < w'.heap.size) l v :=
  h.keep (fun q hq => hb.cell (by rcases hq with hq | hq; exact hS _ hq; exact hq.2)) (fun q hq => by rcases hq with hq | hq; exact .inl hq; exact .inr ⟨hq.1, Nat.lt_of_lt_of_le hq.2 hb.size⟩)
def filledS (t : Tree) (i : Nat) (l : List Tree) : Tree := replS t i (rowT l)
theorem blDrew {W X : World} (h : Below W.heap.size W X) : Below W.heap.size W X.drew := ⟨h.os, h.tape, h.output, h.size, h.block⟩
theorem ofDrew {w w' : World} {B : Nat} (h : Below B w.drew w') : Below B w w' := ⟨h.os, h.tape, h.output, h.size, h.block⟩

set_option maxHeartbeats 4000000 in
theorem filled_any (t : Tree) (i : Nat) (l : List Tree) (A B : Option Addr) (cap cb : Nat) (w : World) (S : Nat → Prop) (hS : ∀ q, S q → q < w.heap.size) (hi : i < t.kids.length) (hlen : t.kids.length ≤ 1000000) (hll : l.length ≤ 1000000) (hv : SliceR treeE w S t.kids (.slice A t.kids.length cap)) (hl : SliceR treeE w S l (.slice B l.length cb)) :
    Calls Try.prog 55 #[.agg #[.int .i64 t.kind, .string t.text, .int .i64 t.cols, .slice A t.kids.length cap], .int .i64 i, .slice B l.length cb] w (TreeP S w (filledS t i l)) := by
  have CR : Hid (∀ W v, Below w.heap.size w W → SliceR treeE W (fun q => S q ∨ w.heap.size + 1 + 1 ≤ q ∧ q < W.heap.size) l v → ∀ B' c', v = .slice B' l.length c' → Calls Try.prog 56 #[.agg #[.int .i64 t.kind, .string t.text, .int .i64 t.cols, .slice A t.kids.length cap], .int .i64 i, .agg #[.int .i64 1, .string ⟨#[]⟩, .int .i64 0, .slice B' l.length c']] W (TreeP (fun q => S q ∨ w.heap.size + 1 + 1 ≤ q ∧ q < W.heap.size) W (filledS t i l))) := by
    intro W v hW hr B' c' hv'
    subst hv'
    exact replaced_any t (rowT l) i A B' cap c' W _ (fun q hq => by
      have hz := hW.size
      rcases hq with hq | hq
      · have := hS q hq; omega
      · exact hq.2) hi hlen ⟨by simp [rowT, Tree.kind, In64], by simp [rowT, Tree.cols, In64], Nat.zero_le _⟩ (hv.keep (fun q hq => hW.cell (hS _ hq)) (fun q hq => .inl hq)) hr
  have HFS : Hid (filledS t i l = filledS t i l) := rfl
  generalize filledS t i l = R at *
  obtain ⟨tk, tx, tc, ts⟩ := t
  obtain ⟨rk, rx, rc, rs⟩ := R
  simp only [Tree.kind, Tree.text, Tree.cols, Tree.kids] at *
  generalize hW0 : (w.alloc (Obj.cells #[.int .i64 tk, .string tx, .int .i64 tc, .slice A ts.length cap] 24)).alloc (Obj.cells #[.int .i64 0, .string ⟨#[]⟩, .int .i64 0, .slice none 0 0] 24) = W0
  have hz0 : W0.heap.size = w.heap.size + 1 + 1 := by rw [← hW0]; simp
  have hB0 : Below w.heap.size w W0 := by rw [← hW0]; exact blAlloc (blA _ _) _
  have hbT : Box4 W0 w.heap.size tk tx tc (.slice A ts.length cap) := by
    rw [← hW0]
    exact (Box4.new w _ _ _ _ _).below (blA _ _) (by simp)
  have hbR : Box4 W0 (w.heap.size + 1) 0 ⟨#[]⟩ 0 (.slice none 0 0) ∧ Free4 W0 (w.heap.size + 1) := by
    rw [← hW0]
    have h := Box4.new (w.alloc (Obj.cells #[.int .i64 tk, .string tx, .int .i64 tc, .slice A ts.length cap] 24)) 0 ⟨#[]⟩ 0 (.slice none 0 0) 24
    have h2 := Free4.new (w.alloc (Obj.cells #[.int .i64 tk, .string tx, .int .i64 tc, .slice A ts.length cap] 24)) #[.int .i64 0, .string ⟨#[]⟩, .int .i64 0, .slice none 0 0] 24
    exact ⟨by simpa using h, by simpa using h2⟩
  have KC : Hid (∀ W, Below W0.heap.size W0 W → Box4 W w.heap.size tk tx tc (.slice A ts.length cap) ∧ Box4 W (w.heap.size + 1) 0 ⟨#[]⟩ 0 (.slice none 0 0) ∧ Free4 W (w.heap.size + 1) ∧ Below w.heap.size w W) := fun W h => ⟨hbT.below h (by omega), hbR.1.below h (by omega), hbR.2.below h (by omega), hB0.trans (h.mono hB0.size)⟩
  have hl0 : SliceR treeE W0 S l (.slice B l.length cb) := hl.keep (fun q hq => hB0.cell (hS _ hq)) (fun _ h => h)
  have HE1 : Hid (∀ W', W' = W0.alloc (.cells #[] 24) → OwnT W'.drew W0.heap.size S [] (.slice (some ⟨W0.heap.size, 0, none⟩) 0 0) ∧ SliceR treeE W'.drew S l (.slice B l.length cb) ∧ Below W0.heap.size W0 W'.drew) := by
    rintro W' rfl
    have hb : Below W0.heap.size W0 (W0.alloc (.cells #[] 24)).drew := (blA _ _).drew
    exact ⟨OwnT.empty W0 S, hl0.keep (fun q hq => hb.cell (by have := hS _ hq; omega)) (fun _ h => h), hb⟩
  have HZ0 := hid hz0
  have HLE : Hid (w.heap.size ≤ W0.heap.size) := by show _ ≤ _; omega
  have HSS := hid hS
  obtain ⟨m0, m1, m2, m3⟩ := hbT
  clear hS hv hl hl0 hi hlen hB0 hbR hz0
  go_enter Try.func55, Try.ntmps55
  go_wp2_with fail
  clear hW0
  go_region_held3 (fun w' => w'.cell? ⟨w.heap.size, 0, none⟩ = some (.int .i64 tk) ∧ w'.cell? ⟨w.heap.size, 1, none⟩ = some (.string tx) ∧ w'.cell? ⟨w.heap.size, 2, none⟩ = some (.int .i64 tc) ∧ w'.cell? ⟨w.heap.size, 3, none⟩ = some (.slice A ts.length cap)) (go_keep) (first
    | (refine step_appT (by rfl) (.tmp 9) (.tmp 10) (by rfl) W0.heap.size S (fun q hq => Nat.lt_of_lt_of_le (HSS.out q hq) HLE.out) _ [] l (by rfl) (HE1.out _ rfl).1 _ _ _ (by rfl) (HE1.out _ rfl).2.1 (by simp; omega) (by simp) ?_; intro v1 w1 hown1 hb1; rw [List.nil_append] at hown1; have HB1 := hid ((HE1.out _ rfl).2.2.trans hb1); have HR1 : Hid (SliceR treeE w1 (fun q => S q ∨ w.heap.size + 1 + 1 ≤ q ∧ q < w1.heap.size) l v1) := by { have h := hown1.rowsN; rw [HZ0.out] at h; exact h }; have HS1 : Hid (∀ q, S q → q < w1.heap.size) := fun q hq => Nat.lt_of_lt_of_le (HSS.out q hq) (Nat.le_trans HLE.out HB1.out.size); obtain ⟨A1, n1, rfl⟩ := hown1.form; obtain ⟨⟨p0, p1, p2, p3⟩, _⟩ := KC.out w1 HB1.out; clear hown1 hb1)
    | (go_at_call 48; refine (toRow_q _ _ _ _).mono ?_; rintro e w2 ⟨rfl, hb2⟩; have HB2 := hid (blCall HB1.out (ofDrew hb2)); have HR2 : Hid (SliceR treeE w2 (fun q => S q ∨ w.heap.size + 1 + 1 ≤ q ∧ q < w2.heap.size) l (.slice A1 l.length n1)) := newer HR1.out HS1.out (ofDrew hb2); obtain ⟨⟨p0, p1, p2, p3⟩, _, _, hbw2⟩ := KC.out w2 HB2.out; have HK2 := hid hbw2; clear hb2 hbw2)
    | (go_at_call 48; refine (toRow_q _ _ _ _).mono ?_; rintro e w2 ⟨rfl, hb2⟩; have HB2 := hid (blCall HB1.out hb2); have HR2 : Hid (SliceR treeE w2 (fun q => S q ∨ w.heap.size + 1 + 1 ≤ q ∧ q < w2.heap.size) l (.slice A1 l.length n1)) := newer HR1.out HS1.out hb2; obtain ⟨⟨p0, p1, p2, p3⟩, _, _, hbw2⟩ := KC.out w2 HB2.out; have HK2 := hid hbw2; clear hb2 hbw2)
    | (go_at_call 56; refine (CR.out _ _ HK2.out HR2.out _ _ rfl).mono ?_; intro e w3 h3; obtain ⟨v3, rfl, hr3, hb3⟩ : ∃ v, e = .returned (.agg #[.int .i64 rk, .string rx, .int .i64 rc, v]) ∧ SliceR treeE w3 (fun q => (S q ∨ w.heap.size + 1 + 1 ≤ q ∧ q < w2.heap.size) ∨ w2.heap.size ≤ q ∧ q < w3.heap.size) rs v ∧ Below w2.heap.size w2 w3 := h3; obtain ⟨A3, n3, rfl⟩ := hr3.form; have HR3 := hid hr3; have HB3 := hid (blCall HB2.out hb3); have HS3 := hid hb3; obtain ⟨⟨p0, p1, p2, p3⟩, hrb, ⟨f0, f1, f2, f3⟩, hbw3⟩ := KC.out w3 HB3.out; have HRB := hid hrb; obtain ⟨r0, r1, r2, r3⟩ := hrb; have HK3 := hid hbw3; clear hb3 hbw3 hr3))
  all_goals
    have hz2 : w.heap.size + 1 < w2.heap.size := by have := HB2.out.size; have := HZ0.out; omega
    have HZ2 := hid hz2
    clear hz2
    go_wp2_with fail
    generalize hZ : ((((w3.setCell _ (.int .i64 rk)).setCell _ (.string rx)).setCell _ (.int .i64 rc)).setCell _ (.slice A3 rs.length n3)) = Z
    obtain ⟨⟨e0, e1, e2, e3⟩, hZs, hZB, hZo, _, _⟩ := fourAt (o := 0) HRB.out.1 HRB.out.2.1 HRB.out.2.2.1 HRB.out.2.2.2 _ _ _ _ hZ.symm
    simp only [Nat.zero_add] at e1 e2 e3
    have HZB := hid (hZB w.heap.size w (by omega) HK3.out)
    have HZO := hid hZo
    have HZS := hid hZs
    clear hZ hZs hZB hZo
    refine bodyPost_ret (v := .agg #[.int .i64 rk, .string rx, .int .i64 rc, .slice A3 rs.length n3]) (by simp [results, Try.results55, go_sem, e0, e1, e2, e3]) rfl ?_
    have HS3 := HS3.out.size
    have HZ2 := HZ2.out
    have HZS := HZS.out
    refine ⟨_, rfl, HR3.out.keep (fun q hq => HZO.out q ?_) (fun q hq => ?_), HZB.out⟩
    · rcases hq with (hq | hq) | hq
      · have := HSS.out _ hq; omega
      · omega
      · omega
    · rcases hq with (hq | hq) | hq
      · exact .inl hq
      · exact .inr ⟨by omega, by omega⟩
      · exact .inr ⟨by omega, by omega⟩
end Go.Proofs.Yteckkamlaibjbaa
/- ref12.splice. -/
set_option linter.unusedVariables false
set_option linter.unusedSimpArgs false
set_option maxRecDepth 100000
namespace Go.Proofs.Yteckkamlaibjbaa
open Go.RowKit

def spliceS (l : List Tree) (a b : Nat) (by_ : List Tree) : List Tree := l.take a ++ by_ ++ l.drop b
/-- A list of trees as the result. -/
def ListP (S : Nat → Prop) (w : World) (L : List Tree) (e : Ending) (w' : World) : Prop :=
  ∃ v, e = .returned v ∧ SliceR treeE w' (fun q => S q ∨ w.heap.size ≤ q ∧ q < w'.heap.size) L v ∧ Below w.heap.size w w'

set_option maxHeartbeats 4000000 in
theorem splice_any (l bs : List Tree) (x y : Int) (a b : Nat) (A B : Option Addr) (cap cb : Nat) (w : World) (S : Nat → Prop) (hS : ∀ q, S q → q < w.heap.size) (hx : x = a) (hy : y = b) (ha : a ≤ l.length) (hb : b ≤ l.length) (hll : l.length ≤ 1000000) (hlb : bs.length ≤ 1000000) (hv : SliceR treeE w S l (.slice A l.length cap)) (hl : SliceR treeE w S bs (.slice B bs.length cb)) :
    Calls Try.prog 54 #[.slice A l.length cap, .int .i64 x, .int .i64 y, .slice B bs.length cb] w (ListP S w (spliceS l a b bs)) := by
  have hn1 : l.length ≤ cap := by obtain ⟨_, _, _, hq, h1, _⟩ := hv; cases hq; exact h1
  obtain ⟨A1, hsl1, hcut1⟩ := cut_h treeE Try.underlying22 size_node A l.length cap x a hx ha hn1
  obtain ⟨A2, hsl2, hcut2⟩ := cut_l treeE Try.underlying22 size_node A l.length cap y b hy hb
  have HSS := hid hS
  have HC1 := hid (hcut1 _ _ _ hv)
  have HC2 := hid (hcut2 _ _ _ hv)
  have HBS := hid hl
  have HOE := hid (OwnT.empty w S)
  have HL : Hid (spliceS l a b bs = l.take a ++ bs ++ l.drop b) := rfl
  have hk : ∀ {ts : List Tree} {v : Value} {W : World}, SliceR treeE w S ts v → Below w.heap.size w W → SliceR treeE W S ts v := fun h hW => h.keep (fun q hq => hW.cell (hS _ hq)) (fun _ h => h)
  have HKE : Hid (∀ (ts : List Tree) (v : Value) (W : World), SliceR treeE w S ts v → Below w.heap.size w W → SliceR treeE W S ts v) := fun _ _ _ h hW => hk h hW
  have HLA : Hid (a ≤ l.length ∧ b ≤ l.length ∧ l.length ≤ 1000000 ∧ bs.length ≤ 1000000) := ⟨ha, hb, hll, hlb⟩
  generalize spliceS l a b bs = L at *
  clear hv hl hS hcut1 hcut2 hx hy ha hb hll hlb hk
  go_enter Try.func54, Try.ntmps54
  go_wp2_with first
    | (refine appT rfl (.tmp 10) (.tmp 13) rfl w.heap.size S (fun q hq => HSS.out q hq) _ [] (l.take a) rfl HOE.out _ _ _ rfl (HKE.out _ _ _ HC1.out (blA _ _)) (by have := HLA.out; simp; omega) (by simp) ?_
       intro v1 w1 ho1 hb1
       rw [List.nil_append] at ho1
       have HO1 := hid ho1
       have HB1 := hid ((blA w (.cells #[] 24)).trans hb1)
       clear ho1 hb1)
    | (refine appT rfl (.tmp 15) (.tmp 16) rfl w.heap.size S (fun q hq => HSS.out q hq) _ (l.take a) bs rfl HO1.out _ _ _ rfl (HKE.out _ _ _ HBS.out HB1.out) (by have := HLA.out; simp; omega) HB1.out.size ?_
       intro v2 w2 ho2 hb2
       have HO2 := hid ho2
       have HB2 := hid (HB1.out.trans hb2)
       clear ho2 hb2)
    | (refine appT rfl (.tmp 18) (.tmp 21) rfl w.heap.size S (fun q hq => HSS.out q hq) _ (l.take a ++ bs) (l.drop b) rfl HO2.out _ _ _ rfl (HKE.out _ _ _ HC2.out HB2.out) (by have := HLA.out; simp; omega) HB2.out.size ?_
       intro v3 w3 ho3 hb3
       have HO3 := hid ho3
       have HB3 := hid (HB2.out.trans hb3)
       clear ho3 hb3)
  go_ret
  exact ⟨_, rfl, by rw [HL.out]; exact HO3.out.rowsN, HB3.out⟩
end Go.Proofs.Yteckkamlaibjbaa
