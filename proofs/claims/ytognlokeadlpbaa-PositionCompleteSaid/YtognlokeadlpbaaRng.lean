/- A range over a function whose rounds are handed a value that reads as something in the world of the round: the law for the caller. -/
import Derived.RangeFuncNested
import Derived.RangeFuncBound
import Derived.RangeFuncCalls
import Derived.RangeFuncLeaves
import Derived.Test.YtognlokeadlpbaaBase
set_option linter.unusedVariables false
set_option linter.unusedSimpArgs false
namespace Go.Proofs.Ytognlokeadlpbaa
open Go Go.RowKit

/-- What an iterator's own steps are: new blocks, written by it alone. -/
def Grows {α : Type} (J : List α → World → Prop) : Prop := ∀ s A B, J s A → Below A.heap.size A B → J s B

/-- A function value that may be ranged over: each round is handed a value that reads as x in the round's world; a round that goes on keeps Kp. -/
def SeqRd {α : Type} (P : Program) (g : Nat) (lb : Array Value) (enc : α → Value) (Rd : α → World → Prop) (Kp : World → World → Prop) (Gd : World → Prop) (S Sp : List α → Prop) (w : World) : Prop :=
  ∀ (l : Nat) (J Jx : List α → World → Prop) (W : World), Below w.heap.size w W → w.heap.size + 2 ≤ W.heap.size → Grows J → Grows Jx → (∀ s A, J s A → Gd A) →
    (∀ pre x W1, J pre W1 → Rd x W1 → Sp (pre ++ [x]) → YieldAt Fence.wide 0 P l #[enc x] W1 fun e W' =>
      (e = .returned (.bool true) ∧ J (pre ++ [x]) W' ∧ Kp W1 W') ∨ (e = .returned (.bool false) ∧ Jx (pre ++ [x]) W')) →
    J [] W →
    CallsIn Fence.wide 0 P g (#[.func (.yield l) #[] #[]] ++ lb) W fun e W' => (∃ v, e = .returned v) ∧ ((∃ xs, S xs ∧ J xs W') ∨ (∃ pre, Sp pre ∧ Jx pre W'))

theorem grownBy_of_below {W W' : World} (h : Below W.heap.size W W') : W.grownBy W' none := ⟨h.os, h.tape, h.output, h.size, fun k hk _ => h.block k hk⟩
theorem OwnFrom.grows {α : Type} {B : Nat} {I : List α → World → Prop} (h : OwnFrom B I) : Grows I := fun s A C hs hb => h s A C none hs (grownBy_of_below hb) (fun r e => by cases e)

/-- The statement, over such a function value. -/
theorem wpIn_range_rd {P : Program} {α : Type} {g : Operand} {p : Tmp} {assign body : Code} {Q : Exit → Act → World → Prop} {a : Act} {w : World}
    {gf : Nat} {lb : Array Value} (hg : a.eval g = .func (.func gf) #[] lb) (eg : ∀ args w, (callFunc gf args).run P w = .ok (.enter gf args) w)
    {enc : α → Value} {Rd : α → World → Prop} {Kp : World → World → Prop} {Gd : World → Prop} {S Sp : List α → Prop} (hseq : SeqRd P gf lb enc Rd Kp Gd S Sp w)
    (hKt : ∀ A B C : World, Kp A B → Kp B C → Kp A C)
    (hKb : ∀ (W : World) (l : Nat) (o o' : Obj), w.heap.size ≤ l → l < w.heap.size + 2 → W.heap[l]? = some o → o.isCells = false → Kp W (W.putObj l o'))
    (hRd : ∀ x (W : World) (l : Nat) (o o' : Obj), w.heap.size ≤ l → l < w.heap.size + 2 → W.heap[l]? = some o → o.isCells = false → Rd x W → Rd x (W.putObj l o'))
    (I : List α → World → Prop) (Ix : Code → List α → World → Prop) (hI : OwnFrom w.heap.size I) (hGd : ∀ s A, I s A → w.heap.size + 2 ≤ A.heap.size → Gd A) (hIx : ∀ c, OwnFrom w.heap.size (Ix c)) (h0 : I [] w) (a₁ : α → Act)
    (hassign : ∀ (l : Nat) (x : α) (W : World) (K : Act → World → Prop), K (a₁ x) W →
      assign.wpIn (Fence.wide.inRound l) 0 P (Exit.then K (fun _ _ _ => False)) { tmps := a.tmps.setIfInBounds p (enc x), defers := [] } W)
    (hbody : ∀ (l : Nat) (pre : List α) (x : α) (W : World), I pre W → Rd x W → Sp (pre ++ [x]) → body.wpIn (Fence.wide.inRound l) 0 P (ownPostK Kp I Ix (pre ++ [x]) W) (a₁ x) W)
    (hdone : ∀ (D : Nat) (xs : List α) (W : World), w.heap.size ≤ D → S xs → I xs W → W.heap[D]? = some (.deferred (some [])) → Q .normal { a with defers := { target := .collected D, args := #[] } :: a.defers } W)
    (hstop : ∀ (D : Nat) (c : Code) (pre : List α) (W : World), w.heap.size ≤ D → Sp pre → Ix c pre W → W.heap[D]? = some (.deferred (some [])) → c.wpIn Fence.wide 0 P Q { a with defers := { target := .collected D, args := #[] } :: a.defers } W) :
    (Code.rangeFunc g #[p] assign body).wpIn Fence.wide 0 P Q a w := by
  refine wpIn_rangeFunc fun fn hfn => ?_
  show ∃ l mark w₁ d w₁' f args w₂, (Instr.enterLoop fn a.tmps #[p] assign body none).run P w = _ ∧ _
  obtain ⟨rec, hrec⟩ : ∃ rec : LoopState → Option Code → Loop, rec = fun st pe => { state := st, pending := pe, fn, tmps := a.tmps, params := #[p], assign, body, defers := w.heap.size } := ⟨_, rfl⟩
  obtain ⟨W1, hW1⟩ : ∃ W1, (w.alloc (.deferred (some []))).alloc (.loop (rec .ready none)) = W1 := ⟨_, rfl⟩
  have hl1 : W1.heap[w.heap.size + 1]? = some (.loop (rec .ready none)) := by
    rw [← hW1]; have := World.alloc_heap_new (w.alloc (.deferred (some []))) (.loop (rec .ready none)); rwa [World.size_alloc] at this
  have hd1 : W1.heap[w.heap.size]? = some (.deferred (some [])) := by
    rw [← hW1]; exact (Below.heap_alloc _ _ _ (by simp)).trans (World.alloc_heap_new w _)
  have hi1 : I [] W1 := by rw [← hW1]; exact hI.alloc _ (hI.alloc _ h0)
  have hb1 : Below w.heap.size w W1 := by rw [← hW1]; exact ((Below.refl _ w).alloc (Nat.le_refl _) _).alloc (by simp) _
  -- a block at a time: what the iterator's steps leave as it lay
  have kept : ∀ {A B : World} {k : Nat} {o : Obj}, Below A.heap.size A B → A.heap[k]? = some o → B.heap[k]? = some o := fun hb hk => (hb.block _ (Array.getElem?_eq_some_iff.1 hk).1).trans hk
  refine ⟨w.heap.size + 1, [{ target := .collected w.heap.size, args := #[] }], W1, { target := .fn (.func gf) lb, args := #[.func (.yield (w.heap.size + 1)) #[] #[]] }, W1, gf,
    #[.func (.yield (w.heap.size + 1)) #[] #[]] ++ lb, W1, ?_, ?_, fun _ _ => trivial, ?_, fun h => (by cases h), ?_⟩
  · rw [← hW1, hrec]; exact run_enterLoop_outer _ _ _ _ _
  · simp only [resolve, hg]
    simp [go_sem]
  · simp [invoke, go_sem, eg]
  · refine (hseq (w.heap.size + 1)
      (fun pre W => I pre W ∧ W.heap[w.heap.size + 1]? = some (.loop (rec .ready none)) ∧ W.heap[w.heap.size]? = some (.deferred (some [])))
      (fun pre W => ∃ c, Ix c pre W ∧ W.heap[w.heap.size + 1]? = some (.loop (rec .done (some c))) ∧ W.heap[w.heap.size]? = some (.deferred (some [])))
      W1 hb1 (by rw [← hW1]; simp)
      (fun s A B ⟨h, hl, hd⟩ hb => ⟨OwnFrom.grows hI s A B h hb, kept hb hl, kept hb hd⟩)
      (fun s A B ⟨c, h, hl, hd⟩ hb => ⟨c, OwnFrom.grows (hIx c) s A B h hb, kept hb hl, kept hb hd⟩)
      (fun s A ⟨h, hl, _⟩ => hGd s A h (by have := (Array.getElem?_eq_some_iff.1 hl).1; omega))
      ?_ ⟨hi1, hl1, hd1⟩).mono ?_
    · rintro pre x W ⟨hi, hl, hd⟩ hx hs
      have hlt : w.heap.size + 1 < W.heap.size := (Array.getElem?_eq_some_iff.1 hl).1
      have hy := run_yield (P := P) (args := #[enc x]) hl (by rw [hrec]; rfl)
      have hb := run_beginRound (P := P) hl (by rw [hrec])
      obtain ⟨W2, hW2⟩ : ∃ W2, W.putObj (w.heap.size + 1) (.loop { rec .ready none with state := .busy }) = W2 := ⟨_, rfl⟩
      have hl2 : W2.heap[w.heap.size + 1]? = some (.loop { rec .ready none with state := .busy }) := by rw [← hW2]; exact World.putObj_heap_same hlt
      have hd2 : W2.heap[w.heap.size]? = some (.deferred (some [])) := by rw [← hW2]; exact (World.putObj_heap_other (by omega)).trans hd
      have hk2 : Kp W W2 := by rw [← hW2]; exact hKb _ _ _ _ (by omega) (by omega) hl rfl
      have hi2 : I pre W2 := by rw [← hW2]; exact hI.putObj _ hi (by omega) hl rfl
      have hx2 : Rd x W2 := by rw [← hW2]; exact hRd _ _ _ _ _ (by omega) (by omega) hl rfl hx
      -- the round's end, whatever jump it leaves
      have fin : ∀ (jump : Option Code) (W3 : World), KeepsOthers W2 W3 → ∃ W4, (Instr.endRound (w.heap.size + 1) jump).run P W3 = .ok (.bool jump.isNone) W4 ∧
          W4.heap[w.heap.size + 1]? = some (.loop (rec (if jump.isNone then .ready else .done) jump)) ∧ W4.heap[w.heap.size]? = some (.deferred (some [])) ∧
          (∀ c, Ix c (pre ++ [x]) W3 → Ix c (pre ++ [x]) W4) ∧ (I (pre ++ [x]) W3 → I (pre ++ [x]) W4) ∧ Kp W3 W4 := fun jump W3 hk3 => by
        have hl3 := hk3.same _ _ hl2 rfl
        have hr := run_endRound (P := P) jump hl3
        refine ⟨_, hr, ?_, (World.putObj_heap_other (by omega)).trans (hk3.same _ _ hd2 rfl), fun c hc => (hIx c).putObj _ hc (by omega) hl3 rfl, fun hc => hI.putObj _ hc (by omega) hl3 rfl, hKb _ _ _ _ (by omega) (by omega) hl3 rfl⟩
        rw [World.putObj_heap_same (Array.getElem?_eq_some_iff.1 hl3).1, hrec]
      rw [hrec] at hy
      have e : (#[p].zip #[enc x]).foldl (fun (t : Array Value) (q : Tmp × Value) => t.setIfInBounds q.1 q.2) a.tmps = a.tmps.setIfInBounds p (enc x) := by simp
      refine ⟨fn, a.tmps.setIfInBounds p (enc x), assign, body, hy.trans (by rw [← e]), roundIn_of_wpIn hfn ?_⟩
      refine hassign _ x W _ ?_
      refine ⟨_, hb, ?_⟩
      rw [hW2]
      refine wpIn_mono (hbody _ pre x _ hi2 hx2 hs) ?_
      rintro e a3 W3 hp
      cases e with
      | normal =>
        obtain ⟨hk3, hkp3, hi3⟩ := hp
        obtain ⟨W4, hr, hl4, hd4, _, hi4, hk4⟩ := fin none W3 hk3
        exact ⟨_, W4, hr, .inl ⟨rfl, ⟨hi4 hi3, hl4, hd4⟩, hKt _ _ _ (hKt _ _ _ hk2 hkp3) hk4⟩⟩
      | ret =>
        obtain ⟨W4, hr, hl4, hd4, hx4, _, _⟩ := fin (some .ret) W3 hp.1
        exact ⟨_, W4, hr, .inr ⟨rfl, .ret, hx4 _ hp.2, hl4, hd4⟩⟩
      | exit id =>
        obtain ⟨W4, hr, hl4, hd4, hx4, _, _⟩ := fin (some (.exit id)) W3 hp.1
        exact ⟨_, W4, hr, .inr ⟨rfl, .exit id, hx4 _ hp.2, hl4, hd4⟩⟩
      | goto t =>
        obtain ⟨W4, hr, hl4, hd4, hx4, _, _⟩ := fin (some (.goto t)) W3 hp.1
        exact ⟨_, W4, hr, .inr ⟨rfl, .goto t, hx4 _ hp.2, hl4, hd4⟩⟩
      | panic ch => exact hp.elim
      | outgrown => exact hp.elim
    · rintro e W2 ⟨⟨v, rfl⟩, (⟨xs, hS, hi, hl, hd⟩ | ⟨pre, hSp, c, hi, hl, hd⟩)⟩
      · have hr := run_endLoop (P := P) hl (by rw [hrec]; simp)
        rw [hrec] at hr
        exact ⟨none, _, hr, hdone _ xs _ (Nat.le_refl _) hS (hI.putObj _ hi (by omega) hl rfl) ((World.putObj_heap_other (by omega)).trans hd)⟩
      · have hr := run_endLoop (P := P) hl (by rw [hrec]; simp)
        rw [hrec] at hr
        exact ⟨some c, _, hr, hstop _ c pre _ (Nat.le_refl _) hSp ((hIx c).putObj _ hi (by omega) hl rfl) ((World.putObj_heap_other (by omega)).trans hd)⟩

/-! ### what a round keeps: all but some blocks (which ones, the world says) -/
structure But (V : World → Nat → Prop) (W W' : World) : Prop where
  os : W'.os = W.os
  tape : W'.tape = W.tape
  output : W'.output = W.output
  size : W.heap.size ≤ W'.heap.size
  block : ∀ k, k < W.heap.size → ¬ V W k → W'.heap[k]? = W.heap[k]?
  less : ∀ k, k < W.heap.size → V W' k → V W k
theorem But.refl (V : World → Nat → Prop) (W : World) : But V W W := ⟨rfl, rfl, rfl, Nat.le_refl _, fun _ _ _ => rfl, fun _ _ h => h⟩
theorem But.trans {V : World → Nat → Prop} {A B C : World} (h : But V A B) (k : But V B C) : But V A C :=
  ⟨k.os.trans h.os, k.tape.trans h.tape, k.output.trans h.output, Nat.le_trans h.size k.size,
    fun i hi hv => (k.block i (Nat.lt_of_lt_of_le hi h.size) (fun e => hv (h.less i hi e))).trans (h.block i hi hv), fun i hi hv => h.less i hi (k.less i (Nat.lt_of_lt_of_le hi h.size) hv)⟩
/-- The iterator's steps do not turn what the body may write. -/
def Gdv (V : World → Nat → Prop) (W : World) : Prop := ∀ W', Below W.heap.size W W' → ∀ k, V W' k → V W k ∧ k < W.heap.size
theorem But.of_below {V : World → Nat → Prop} {W W' : World} (h : Below W.heap.size W W') (hg : Gdv V W) : But V W W' := ⟨h.os, h.tape, h.output, h.size, fun k hk _ => h.block k hk, fun k _ hv => (hg W' h k hv).1⟩
theorem But.of_grownBy {V : World → Nat → Prop} {W W' : World} {row : Option Nat} (h : W.grownBy W' row) (hV : ∀ k, row = some k → k < W.heap.size → V W k) (hl : ∀ k, k < W.heap.size → V W' k → V W k) : But V W W' :=
  ⟨h.os, h.tape, h.output, h.size, fun k hk hv => h.block k hk (fun e => hv (hV k e.symm hk)), hl⟩
theorem But.cell {V : World → Nat → Prop} {W W' : World} (h : But V W W') {p : Addr} (hp : p.block < W.heap.size) (hv : ¬ V W p.block) : W'.cell? p = W.cell? p := World.cell?_of_block (h.block _ hp hv)
theorem But.same {V : World → Nat → Prop} {W W' : World} (h : But V W W') : Go.Proofs.Ytognlokeadlpbaa.Same (fun k => k < W.heap.size ∧ ¬ V W k) W W' := fun p hp => h.cell hp.1 hp.2
theorem But.below {V : World → Nat → Prop} {W W' : World} {B : Nat} (h : But V W W') (hB : ∀ k, V W k → B ≤ k) (hs : B ≤ W.heap.size) : Below B W W' :=
  ⟨h.os, h.tape, h.output, h.size, fun k hk => h.block k (by omega) (fun hv => by have := hB k hv; omega)⟩
/-- Where the set does not turn. -/
theorem But.setCell {V : Nat → Prop} (W : World) {p : Addr} (hV : V p.block) (u : Value) : But (fun _ => V) W (W.setCell p u) :=
  ⟨rfl, rfl, rfl, by simp [World.setCell], fun k hk hv => Below.heap_setCell _ _ _ _ (fun e => hv (e ▸ hV)), fun _ _ h => h⟩
theorem But.putObj {V : Nat → Prop} (W : World) (l : Nat) (o : Obj) (hV : V l) : But (fun _ => V) W (W.putObj l o) := But.of_grownBy (grownBy_putObj' W l o) (fun k e _ => by cases e; exact hV) (fun _ _ h => h)
theorem But.drewN {V : Nat → Prop} (W : World) (n : Nat) : But (fun _ => V) W (W.drewN n) := ⟨rfl, rfl, rfl, Nat.le_refl _, fun _ _ _ => rfl, fun _ _ h => h⟩
theorem keepsDrewN (W : World) (n : Nat) : KeepsOthers W (W.drewN n) := ⟨Nat.le_refl _, fun _ _ h _ => h⟩
end Go.Proofs.Ytognlokeadlpbaa
