/- Texts put together: Rng, Visit, Places. -/
import Derived.RangeFuncNested
import Derived.RangeFuncBound
import Derived.RangeFuncCalls
import Derived.RangeFuncLeaves
import Derived.Test.YtmahiejfniaahaaGreatDoorBasev
import Derived.Test.YtmahiejfniaahaaGreatDoorHI
import Derived.Shelf.Abstract
import Derived.Shelf.RegionOpen
import Derived.OwnWalkIn
import Derived.TacticsInMore
import Derived.LoopNIn
import Derived.LoopIn
set_option linter.unusedVariables false
set_option linter.unusedSimpArgs false
namespace Go.Proofs.YtmahiejfniaahaaGreatDoor
open Go Go.RowKit
def Grows {α : Type} (J : List α → World → Prop) : Prop := ∀ s A B, J s A → Below A.heap.size A B → J s B
def SeqRd {α : Type} (P : Program) (g : Nat) (lb : Array Value) (enc : α → Value) (Rd : α → World → Prop) (Kp : World → World → Prop) (Gd : World → Prop) (S Sp : List α → Prop) (w : World) : Prop :=
  ∀ (l : Nat) (J Jx : List α → World → Prop) (W : World), Below w.heap.size w W → w.heap.size + 2 ≤ W.heap.size → Grows J → Grows Jx → (∀ s A, J s A → Gd A) →
    (∀ pre x W1, J pre W1 → Rd x W1 → Sp (pre ++ [x]) → YieldAt Fence.wide 0 P l #[enc x] W1 fun e W' =>
      (e = .returned (.bool true) ∧ J (pre ++ [x]) W' ∧ Kp W1 W') ∨ (e = .returned (.bool false) ∧ Jx (pre ++ [x]) W')) →
    J [] W →
    CallsIn Fence.wide 0 P g (#[.func (.yield l) #[] #[]] ++ lb) W fun e W' => (∃ v, e = .returned v) ∧ ((∃ xs, S xs ∧ J xs W') ∨ (∃ pre, Sp pre ∧ Jx pre W'))
theorem grownBy_of_below {W W' : World} (h : Below W.heap.size W W') : W.grownBy W' none := ⟨h.os, h.tape, h.output, h.size, fun k hk _ => h.block k hk⟩
theorem OwnFrom.grows {α : Type} {B : Nat} {I : List α → World → Prop} (h : OwnFrom B I) : Grows I := fun s A C hs hb => h s A C none hs (grownBy_of_below hb) (fun r e => by cases e)
theorem wpIn_range_rd {P : Program} {α : Type} {g : Operand} {p : Tmp} {assign body : Code} {Q : Exit → Act → World → Prop} {a : Act} {w : World}
    {gf : Nat} {lb : Array Value} (hg : a.eval g = .func (.func gf) #[] lb) (eg : ∀ args w, (callFunc gf args).run P w = .ok (.enter gf args) w)
    {enc : α → Value} {Rd : α → World → Prop} {Kp : World → World → Prop} {Gd : World → Prop} {S Sp : List α → Prop} (hseq : SeqRd P gf lb enc Rd Kp Gd S Sp w)
    (hKt : ∀ A B C : World, Kp A B → Kp B C → Kp A C)
    (hKb : ∀ (W : World) (l : Nat) (o o' : Obj), w.heap.size ≤ l → l < w.heap.size + 2 → W.heap[l]? = some o → o.isCells = false → Kp W (W.putObj l o'))
    (hRd : ∀ x (W : World) (l : Nat) (o o' : Obj), w.heap.size ≤ l → l < w.heap.size + 2 → W.heap[l]? = some o → o.isCells = false → Rd x W → Rd x (W.putObj l o'))
    (I : List α → World → Prop) (Ix : Code → List α → World → Prop) (hI : OwnFrom w.heap.size I) (hGd : ∀ s A, I s A → w.heap.size + 2 ≤ A.heap.size → Gd A) (hIx : ∀ c, OwnFrom w.heap.size (Ix c)) (h0 : I [] w) (a₁ : α → Act)
    (hassign : ∀ (l : Nat) (x : α) (W : World) (K : Act → World → Prop), K (a₁ x) W →
      assign.wpIn (Fence.wide.inRound l) 0 P (Exit.then K (fun _ _ _ => False)) { tmps := a.tmps.setIfInBounds p (enc x), defers := [] } W)
    (hbody : ∀ (l : Nat) (pre : List α) (x : α) (W : World), I pre W → Rd x W → Sp (pre ++ [x]) → body.wpIn (Fence.wide.inRound l) 0 P (ownPostK Kp I Ix (pre ++ [x]) W) (a₁ x) W)
    (hdone : ∀ (D : Nat) (xs : List α) (W : World), w.heap.size ≤ D → S xs → I xs W → W.heap[D]? = some (.deferred (some [])) → Q .normal { a with defers := { target := .collected D, args := #[] } :: a.defers } W)
    (hstop : ∀ (D : Nat) (c : Code) (pre : List α) (W : World), w.heap.size ≤ D → Sp pre → Ix c pre W → W.heap[D]? = some (.deferred (some [])) → c.wpIn Fence.wide 0 P Q { a with defers := { target := .collected D, args := #[] } :: a.defers } W) :
    (Code.rangeFunc g #[p] assign body).wpIn Fence.wide 0 P Q a w := by
  refine wpIn_rangeFunc fun fn hfn => ?_
  show ∃ l mark w₁ d w₁' f args w₂, (Instr.enterLoop fn a.tmps #[p] assign body none).run P w = _ ∧ _
  obtain ⟨rec, hrec⟩ : ∃ rec : LoopState → Option Code → Loop, rec = fun st pe => { state := st, pending := pe, fn, tmps := a.tmps, params := #[p], assign, body, defers := w.heap.size } := ⟨_, rfl⟩
  obtain ⟨W1, hW1⟩ : ∃ W1, (w.alloc (.deferred (some []))).alloc (.loop (rec .ready none)) = W1 := ⟨_, rfl⟩
  have hl1 : W1.heap[w.heap.size + 1]? = some (.loop (rec .ready none)) := by
    rw [← hW1]; have := World.alloc_heap_new (w.alloc (.deferred (some []))) (.loop (rec .ready none)); rwa [World.size_alloc] at this
  have hd1 : W1.heap[w.heap.size]? = some (.deferred (some [])) := by
    rw [← hW1]; exact (Below.heap_alloc _ _ _ (by simp)).trans (World.alloc_heap_new w _)
  have hi1 : I [] W1 := by rw [← hW1]; exact hI.alloc _ (hI.alloc _ h0)
  have hb1 : Below w.heap.size w W1 := by rw [← hW1]; exact ((Below.refl _ w).alloc (Nat.le_refl _) _).alloc (by simp) _
  -- a block at a time: what the iterator's steps leave as it lay
  have kept : ∀ {A B : World} {k : Nat} {o : Obj}, Below A.heap.size A B → A.heap[k]? = some o → B.heap[k]? = some o := fun hb hk => (hb.block _ (Array.getElem?_eq_some_iff.1 hk).1).trans hk
  refine ⟨w.heap.size + 1, [{ target := .collected w.heap.size, args := #[] }], W1, { target := .fn (.func gf) lb, args := #[.func (.yield (w.heap.size + 1)) #[] #[]] }, W1, gf,
    #[.func (.yield (w.heap.size + 1)) #[] #[]] ++ lb, W1, ?_, ?_, fun _ _ => trivial, ?_, fun h => (by cases h), ?_⟩
  · rw [← hW1, hrec]; exact run_enterLoop_outer _ _ _ _ _
  · simp only [resolve, hg]
    simp [go_sem]
  · simp [invoke, go_sem, eg]
  · refine (hseq (w.heap.size + 1)
      (fun pre W => I pre W ∧ W.heap[w.heap.size + 1]? = some (.loop (rec .ready none)) ∧ W.heap[w.heap.size]? = some (.deferred (some [])))
      (fun pre W => ∃ c, Ix c pre W ∧ W.heap[w.heap.size + 1]? = some (.loop (rec .done (some c))) ∧ W.heap[w.heap.size]? = some (.deferred (some [])))
      W1 hb1 (by rw [← hW1]; simp)
      (fun s A B ⟨h, hl, hd⟩ hb => ⟨OwnFrom.grows hI s A B h hb, kept hb hl, kept hb hd⟩)
      (fun s A B ⟨c, h, hl, hd⟩ hb => ⟨c, OwnFrom.grows (hIx c) s A B h hb, kept hb hl, kept hb hd⟩)
      (fun s A ⟨h, hl, _⟩ => hGd s A h (by have := (Array.getElem?_eq_some_iff.1 hl).1; omega))
      ?_ ⟨hi1, hl1, hd1⟩).mono ?_
    · rintro pre x W ⟨hi, hl, hd⟩ hx hs
      have hlt : w.heap.size + 1 < W.heap.size := (Array.getElem?_eq_some_iff.1 hl).1
      have hy := run_yield (P := P) (args := #[enc x]) hl (by rw [hrec]; rfl)
      have hb := run_beginRound (P := P) hl (by rw [hrec])
      obtain ⟨W2, hW2⟩ : ∃ W2, W.putObj (w.heap.size + 1) (.loop { rec .ready none with state := .busy }) = W2 := ⟨_, rfl⟩
      have hl2 : W2.heap[w.heap.size + 1]? = some (.loop { rec .ready none with state := .busy }) := by rw [← hW2]; exact World.putObj_heap_same hlt
      have hd2 : W2.heap[w.heap.size]? = some (.deferred (some [])) := by rw [← hW2]; exact (World.putObj_heap_other (by omega)).trans hd
      have hk2 : Kp W W2 := by rw [← hW2]; exact hKb _ _ _ _ (by omega) (by omega) hl rfl
      have hi2 : I pre W2 := by rw [← hW2]; exact hI.putObj _ hi (by omega) hl rfl
      have hx2 : Rd x W2 := by rw [← hW2]; exact hRd _ _ _ _ _ (by omega) (by omega) hl rfl hx
      -- the round's end, whatever jump it leaves
      have fin : ∀ (jump : Option Code) (W3 : World), KeepsOthers W2 W3 → ∃ W4, (Instr.endRound (w.heap.size + 1) jump).run P W3 = .ok (.bool jump.isNone) W4 ∧
          W4.heap[w.heap.size + 1]? = some (.loop (rec (if jump.isNone then .ready else .done) jump)) ∧ W4.heap[w.heap.size]? = some (.deferred (some [])) ∧
          (∀ c, Ix c (pre ++ [x]) W3 → Ix c (pre ++ [x]) W4) ∧ (I (pre ++ [x]) W3 → I (pre ++ [x]) W4) ∧ Kp W3 W4 := fun jump W3 hk3 => by
        have hl3 := hk3.same _ _ hl2 rfl
        have hr := run_endRound (P := P) jump hl3
        refine ⟨_, hr, ?_, (World.putObj_heap_other (by omega)).trans (hk3.same _ _ hd2 rfl), fun c hc => (hIx c).putObj _ hc (by omega) hl3 rfl, fun hc => hI.putObj _ hc (by omega) hl3 rfl, hKb _ _ _ _ (by omega) (by omega) hl3 rfl⟩
        rw [World.putObj_heap_same (Array.getElem?_eq_some_iff.1 hl3).1, hrec]
      rw [hrec] at hy
      have e : (#[p].zip #[enc x]).foldl (fun (t : Array Value) (q : Tmp × Value) => t.setIfInBounds q.1 q.2) a.tmps = a.tmps.setIfInBounds p (enc x) := by simp
      refine ⟨fn, a.tmps.setIfInBounds p (enc x), assign, body, hy.trans (by rw [← e]), roundIn_of_wpIn hfn ?_⟩
      refine hassign _ x W _ ?_
      refine ⟨_, hb, ?_⟩
      rw [hW2]
      refine wpIn_mono (hbody _ pre x _ hi2 hx2 hs) ?_
      rintro e a3 W3 hp
      cases e with
      | normal =>
        obtain ⟨hk3, hkp3, hi3⟩ := hp
        obtain ⟨W4, hr, hl4, hd4, _, hi4, hk4⟩ := fin none W3 hk3
        exact ⟨_, W4, hr, .inl ⟨rfl, ⟨hi4 hi3, hl4, hd4⟩, hKt _ _ _ (hKt _ _ _ hk2 hkp3) hk4⟩⟩
      | ret =>
        obtain ⟨W4, hr, hl4, hd4, hx4, _, _⟩ := fin (some .ret) W3 hp.1
        exact ⟨_, W4, hr, .inr ⟨rfl, .ret, hx4 _ hp.2, hl4, hd4⟩⟩
      | exit id =>
        obtain ⟨W4, hr, hl4, hd4, hx4, _, _⟩ := fin (some (.exit id)) W3 hp.1
        exact ⟨_, W4, hr, .inr ⟨rfl, .exit id, hx4 _ hp.2, hl4, hd4⟩⟩
      | goto t =>
        obtain ⟨W4, hr, hl4, hd4, hx4, _, _⟩ := fin (some (.goto t)) W3 hp.1
        exact ⟨_, W4, hr, .inr ⟨rfl, .goto t, hx4 _ hp.2, hl4, hd4⟩⟩
      | panic ch => exact hp.elim
      | outgrown => exact hp.elim
    · rintro e W2 ⟨⟨v, rfl⟩, (⟨xs, hS, hi, hl, hd⟩ | ⟨pre, hSp, c, hi, hl, hd⟩)⟩
      · have hr := run_endLoop (P := P) hl (by rw [hrec]; simp)
        rw [hrec] at hr
        exact ⟨none, _, hr, hdone _ xs _ (Nat.le_refl _) hS (hI.putObj _ hi (by omega) hl rfl) ((World.putObj_heap_other (by omega)).trans hd)⟩
      · have hr := run_endLoop (P := P) hl (by rw [hrec]; simp)
        rw [hrec] at hr
        exact ⟨some c, _, hr, hstop _ c pre _ (Nat.le_refl _) hSp ((hIx c).putObj _ hi (by omega) hl rfl) ((World.putObj_heap_other (by omega)).trans hd)⟩
/-! ### what a round keeps: all but some blocks (which ones, the world says) -/
structure But (V : World → Nat → Prop) (W W' : World) : Prop where
  os : W'.os = W.os
  tape : W'.tape = W.tape
  output : W'.output = W.output
  size : W.heap.size ≤ W'.heap.size
  block : ∀ k, k < W.heap.size → ¬ V W k → W'.heap[k]? = W.heap[k]?
  less : ∀ k, k < W.heap.size → V W' k → V W k
theorem But.refl (V : World → Nat → Prop) (W : World) : But V W W := ⟨rfl, rfl, rfl, Nat.le_refl _, fun _ _ _ => rfl, fun _ _ h => h⟩
theorem But.trans {V : World → Nat → Prop} {A B C : World} (h : But V A B) (k : But V B C) : But V A C :=
  ⟨k.os.trans h.os, k.tape.trans h.tape, k.output.trans h.output, Nat.le_trans h.size k.size,
    fun i hi hv => (k.block i (Nat.lt_of_lt_of_le hi h.size) (fun e => hv (h.less i hi e))).trans (h.block i hi hv), fun i hi hv => h.less i hi (k.less i (Nat.lt_of_lt_of_le hi h.size) hv)⟩
def Gdv (V : World → Nat → Prop) (W : World) : Prop := ∀ W', Below W.heap.size W W' → ∀ k, V W' k → V W k ∧ k < W.heap.size
theorem But.of_below {V : World → Nat → Prop} {W W' : World} (h : Below W.heap.size W W') (hg : Gdv V W) : But V W W' := ⟨h.os, h.tape, h.output, h.size, fun k hk _ => h.block k hk, fun k _ hv => (hg W' h k hv).1⟩
theorem But.of_grownBy {V : World → Nat → Prop} {W W' : World} {row : Option Nat} (h : W.grownBy W' row) (hV : ∀ k, row = some k → k < W.heap.size → V W k) (hl : ∀ k, k < W.heap.size → V W' k → V W k) : But V W W' :=
  ⟨h.os, h.tape, h.output, h.size, fun k hk hv => h.block k hk (fun e => hv (hV k e.symm hk)), hl⟩
theorem But.cell {V : World → Nat → Prop} {W W' : World} (h : But V W W') {p : Addr} (hp : p.block < W.heap.size) (hv : ¬ V W p.block) : W'.cell? p = W.cell? p := World.cell?_of_block (h.block _ hp hv)
theorem But.same {V : World → Nat → Prop} {W W' : World} (h : But V W W') : Go.Proofs.YtmahiejfniaahaaGreatDoor.Same (fun k => k < W.heap.size ∧ ¬ V W k) W W' := fun p hp => h.cell hp.1 hp.2
theorem But.below {V : World → Nat → Prop} {W W' : World} {B : Nat} (h : But V W W') (hB : ∀ k, V W k → B ≤ k) (hs : B ≤ W.heap.size) : Below B W W' :=
  ⟨h.os, h.tape, h.output, h.size, fun k hk => h.block k (by omega) (fun hv => by have := hB k hv; omega)⟩
theorem But.setCell {V : Nat → Prop} (W : World) {p : Addr} (hV : V p.block) (u : Value) : But (fun _ => V) W (W.setCell p u) :=
  ⟨rfl, rfl, rfl, by simp [World.setCell], fun k hk hv => Below.heap_setCell _ _ _ _ (fun e => hv (e ▸ hV)), fun _ _ h => h⟩
theorem But.putObj {V : Nat → Prop} (W : World) (l : Nat) (o : Obj) (hV : V l) : But (fun _ => V) W (W.putObj l o) := But.of_grownBy (grownBy_putObj' W l o) (fun k e _ => by cases e; exact hV) (fun _ _ h => h)
theorem But.drewN {V : Nat → Prop} (W : World) (n : Nat) : But (fun _ => V) W (W.drewN n) := ⟨rfl, rfl, rfl, Nat.le_refl _, fun _ _ _ => rfl, fun _ _ h => h⟩
theorem keepsDrewN (W : World) (n : Nat) : KeepsOthers W (W.drewN n) := ⟨Nat.le_refl _, fun _ _ h _ => h⟩
end Go.Proofs.YtmahiejfniaahaaGreatDoor
set_option linter.unusedVariables false
set_option linter.unusedSimpArgs false
set_option maxRecDepth 100000
namespace Go.Proofs.YtmahiejfniaahaaGreatDoor
open Go Go.RowKit Go.Shelf
attribute [local go_sem] Oper.semAt_some
abbrev PosV := List Int × Value
def PRd (n1 : Nat) (x : PosV) (W : World) : Prop := IntsR W (fun k => n1 ≤ k ∧ k < W.heap.size) x.1 x.2
def PRdV (V : World → Nat → Prop) (n1 : Nat) (x : PosV) (W : World) : Prop := IntsR W (fun k => n1 ≤ k ∧ k < W.heap.size ∧ ¬ V W k) x.1 x.2
def OkV (V : World → Nat → Prop) (W : World) (k : Nat) : Prop := k < W.heap.size ∧ ¬ V W k
theorem But.ok {V : World → Nat → Prop} {W W' : World} (h : But V W W') : ∀ k, OkV V W k → OkV V W' k := fun k hk => ⟨Nat.lt_of_lt_of_le hk.1 h.size, fun e => hk.2 (h.less k hk.1 e)⟩
theorem SliceR.but {α : Type} {E : Enc α} {V : World → Nat → Prop} {W W' : World} {xs : List α} {v : Value} (h : SliceR E W (OkV V W) xs v) (hb : But V W W') : SliceR E W' (OkV V W') xs v := h.keep hb.same hb.ok
theorem SliceR.wide {α : Type} {E : Enc α} {W : World} {S S' : Nat → Prop} {xs : List α} {v : Value} (h : SliceR E W S xs v) (hS : ∀ k, S k → S' k) : SliceR E W S' xs v := h.keep (sameRefl _ _) hS
def CatPost (w : World) (xs : List Int) (e : Ending) (w' : World) : Prop := ∃ v, e = .returned v ∧ IntsR w' (fun k => w.heap.size ≤ k ∧ k < w'.heap.size) xs v ∧ Below w.heap.size w w'
theorem rows_two' {W : World} {xs ys : List Int} {u v : Value} (hu : IntsR W (Lt W.heap.size) xs u) (hv : IntsR W (Lt W.heap.size) ys v) (g : Nat) (hg : g = W.heap.size) (e : TypeId) :
    SliceR (sliceE intE) (W.alloc (.cells #[u, v] e)) (Lt (W.alloc (.cells #[u, v] e)).heap.size) [xs, ys] (.slice (some ⟨g, 0, none⟩) 2 2) := by
  subst hg
  have hb : Below W.heap.size W (W.alloc (.cells #[u, v] e)) := below_allocR _ _
  refine ⟨_, _, [u, v], rfl, Nat.le_refl _, by simp [maxLen], fun _ => ⟨W.heap.size, 0, rfl, by unfold Lt; simp, fun j x hx => ?_⟩, [u], [v], rfl, ⟨u, rfl, hu.below hb hb.size⟩, ListR.single (E := sliceE intE) ⟨v, rfl, hv.below hb hb.size⟩⟩
  rw [Nat.zero_add, World.cell?_alloc_new]
  simpa using hx
theorem cat2 (W : World) (xs ys : List Int) (u : Value) (hu : IntsR W (Lt W.heap.size) xs u) (hy : ∀ y ∈ ys, In64 y) (cs : Array Value) (hcs : cs = (ys.map (Value.int .i64 ·)).toArray) (m : Nat) (hm : m = ys.length) (hy1 : m ≤ 100) (hlen : xs.length ≤ 900000) (g : Nat) (hg : g = W.heap.size) (W' : World)
    (hW : W' = (W.alloc (.cells cs 3)).alloc (.cells #[u, .slice (some ⟨g, 0, none⟩) m m] 26) ∨ W' = ((W.alloc (.cells cs 3)).alloc (.cells #[u, .slice (some ⟨g, 0, none⟩) m m] 26)).drew) (n : Nat) :
    CallsIn Fence.wide n Tryz.prog 45 #[.slice (some ⟨g + 1, 0, none⟩) 2 2] W' (CatPost W (xs ++ ys)) := by
  subst hcs hm hg
  refine callsIn_wide.2 ?_
  have hb1 : Below W.heap.size W (W.alloc (.cells (ys.map (Value.int .i64 ·)).toArray 3)) := below_allocR _ _
  have hl : ∀ S : Nat → Prop, S W.heap.size → IntsR (W.alloc (.cells (ys.map (Value.int .i64 ·)).toArray 3)) S ys (.slice (some ⟨W.heap.size, 0, none⟩) ys.length ys.length) := fun S hS => ints_lit W ys hy hS _ ys.length rfl rfl (by simp [maxLen]; omega) _ _ rfl
  have hr := rows_two' (hu.below hb1 hb1.size) (hl (Lt (W.alloc (.cells (ys.map (Value.int .i64 ·)).toArray 3)).heap.size) (by unfold Lt; simp)) (W.heap.size + 1) (by simp) 26
  have hb2 : Below W.heap.size W ((W.alloc (.cells (ys.map (Value.int .i64 ·)).toArray 3)).alloc (.cells #[u, .slice (some ⟨W.heap.size, 0, none⟩) ys.length ys.length] 26)) := hb1.alloc hb1.size _
  have hf : [xs, ys].flatten = xs ++ ys := by simp
  rcases hW with rfl | rfl
  · refine (concat_any _ _ _ hr (by rw [hf]; simp; omega)).mono ?_
    rintro e w1 ⟨v1, rfl, ho, hb⟩
    rw [hf] at ho
    exact ⟨v1, rfl, ho.ints (fun k h1 h2 => ⟨by simp at h1; omega, h2⟩), hb2.trans (hb.mono hb2.size)⟩
  · refine (concat_any _ _ _ (slice_drew hr) (by rw [hf]; simp; omega)).mono ?_
    rintro e w1 ⟨v1, rfl, ho, hb⟩
    rw [hf] at ho
    refine ⟨v1, rfl, ho.ints (fun k h1 h2 => ⟨?_, h2⟩), hb2.drew.trans (hb.mono hb2.drew.size)⟩
    have := hb2.drew.size; omega
def VisitRes (TOT L : List (List Int)) (V : World → Nat → Prop) (J Jx : List PosV → World → Prop) (pre : List PosV) (W : World) (e : Ending) (W' : World) : Prop :=
  (e = .returned (.bool true) ∧ ∃ xs : List PosV, xs.map Prod.fst = L ∧ J (pre ++ xs) W' ∧ But V W W') ∨ (e = .returned (.bool false) ∧ ∃ q : List PosV, (pre ++ q).map Prod.fst <+: TOT ∧ Jx (pre ++ q) W')
theorem cut_left {pre xs : List PosV} {L R T : List (List Int)} (h1 : pre.map Prod.fst ++ (L ++ R) = T) (h2 : (pre ++ xs).map Prod.fst ++ R = T) : xs.map Prod.fst = L := by
  rw [← h1, List.map_append, List.append_assoc] at h2
  exact List.append_cancel_right (List.append_cancel_left h2)
set_option maxHeartbeats 4000000 in
theorem visit_any (l n1 : Nat) (V : World → Nat → Prop) (TOT : List (List Int)) (J Jx : List PosV → World → Prop) (hV : ∀ s W, J s W → Gdv V W) (hJ : Grows J) (hJx : Grows Jx)
    (hY : ∀ pre x W1, J pre W1 → PRdV V n1 x W1 → (pre ++ [x]).map Prod.fst <+: TOT → YieldAt Fence.wide 0 Tryz.prog l #[x.2] W1 fun e W' =>
      (e = .returned (.bool true) ∧ J (pre ++ [x]) W' ∧ But V W1 W') ∨ (e = .returned (.bool false) ∧ Jx (pre ++ [x]) W')) (t : Tree) :
    ∀ (path : List Int) (g o : Nat) (A Ap : Option Addr) (cap cp : Nat) (pre : List PosV) (REST : List (List Int)) (w : World), w.cell? ⟨g, o + 3, none⟩ = some (.slice A t.kids.length cap) → OkV V w g →
      SliceR treeE w (OkV V w) t.kids (.slice A t.kids.length cap) → IntsR w (OkV V w) path (.slice Ap path.length cp) → path.length + 2 * countS t ≤ 800000 → n1 ≤ w.heap.size → J pre w → pre.map Prod.fst ++ (allS path t ++ REST) = TOT →
      CallsIn Fence.wide 0 Tryz.prog 113 #[.pointer (some ⟨g, o, none⟩), .slice Ap path.length cp, .func (.yield l) #[] #[]] w (VisitRes TOT (allS path t) V J Jx pre w) := by
  induction t using Tree.ind' with
  | h t ih =>
  intro path g o A Ap cap cp pre REST w hc hg hv hp hcnt hn hj0 htot
  have HE : Hid (allS path t = itemsS path 0 t.kids) := allS_eq path t
  have hkc := kids_le_count t
  have HIH : Hid (∀ (j k : Nat) (hj : j < t.kids.length) (hk : k < t.kids[j].kids.length) (g o : Nat) (A1 A2 : Option Addr) (c1 c2 : Nat) (pre : List PosV) (REST : List (List Int)) (W : World), W.cell? ⟨g, o + 3, none⟩ = some (.slice A1 t.kids[j].kids[k].kids.length c1) → OkV V W g →
      SliceR treeE W (OkV V W) t.kids[j].kids[k].kids (.slice A1 t.kids[j].kids[k].kids.length c1) → IntsR W (OkV V W) (path ++ [(j : Int), (k : Int)]) (.slice A2 (path.length + 2) c2) → n1 ≤ W.heap.size → J pre W → pre.map Prod.fst ++ (allS (path ++ [(j : Int), (k : Int)]) t.kids[j].kids[k] ++ REST) = TOT →
      CallsIn Fence.wide 0 Tryz.prog 113 #[.pointer (some ⟨g, o, none⟩), .slice A2 (path.length + 2) c2, .func (.yield l) #[] #[]] W (VisitRes TOT (allS (path ++ [(j : Int), (k : Int)]) t.kids[j].kids[k]) V J Jx pre W)) := by
    intro j k hj hk g o A1 A2 c1 c2 pre REST W h1 h2 h3 h4 h5 h6 h7
    have hl : (path ++ [(j : Int), (k : Int)]).length = path.length + 2 := by simp
    have hc1 := countS_kid hj
    have hc2 := countS_kid hk
    rw [← hl] at h4 ⊢
    exact ih _ (List.getElem_mem hj) _ (List.getElem_mem hk) _ _ _ _ _ _ _ _ _ _ h1 h2 h3 h4 (by rw [hl]; omega) h5 h6 h7
  have HRES : Hid (∀ (xs : List PosV) W', (pre ++ xs).map Prod.fst ++ REST = TOT → J (pre ++ xs) W' → But V w W' → VisitRes TOT (allS path t) V J Jx pre w (.returned (.bool true)) W') := fun xs W' h1 h2 h3 => .inl ⟨rfl, xs, cut_left htot h1, h2, h3⟩
  have HNO : Hid (∀ (q : List PosV) W', (pre ++ q).map Prod.fst <+: TOT → Jx (pre ++ q) W' → VisitRes TOT (allS path t) V J Jx pre w (.returned (.bool false)) W') := fun q W' h1 h2 => .inr ⟨rfl, q, h1, h2⟩
  have H0 : Hid (pre.map Prod.fst ++ (itemsS path 0 t.kids ++ REST) = TOT) := by rw [HE.out] at htot; exact htot
  generalize VisitRes TOT (allS path t) V J Jx pre w = POST at HRES HNO ⊢
  have hpl : path.length ≤ 800000 := by omega
  have htl : t.kids.length ≤ 800000 := by omega
  clear ih HE hcnt hkc htot
  generalize t.kids = ts at *
  have HV := hid hV
  have HP : Hid (∀ W, But V w W → IntsR W (OkV V W) path (.slice Ap path.length cp)) := fun W h => hp.but h
  have HT : Hid (∀ W, But V w W → SliceR treeE W (OkV V W) ts (.slice A ts.length cap)) := fun W h => hv.but h
  have KEEP0 : Hid (∀ W, But V w W → W.cell? ⟨g, o + 3, none⟩ = some (.slice A ts.length cap)) := fun W h => (h.cell (p := ⟨g, o + 3, none⟩) hg.1 hg.2).trans hc
  have HY := hid hY
  have HJ := hid hJ
  have HN := hid hn
  have HJ0 := hid hj0
  clear hc hg hv hp hV hY hJ hJx hj0 hn
  refine callsIn_of_wp Tryz.func113 rfl trivial ?_ rfl
  simp only [Tryz.ntmps113, List.size_toArray, List.length_cons, List.length_nil, Nat.reduceAdd, Nat.reduceSub, Array.replicate_succ, Array.replicate_zero, List.push_toArray, List.append_toArray, List.nil_append, List.cons_append]
  gi_wp2_with fail
  gi_loopw [7] (fun i wr => ∃ (j : Nat) (xs : List PosV), j ≤ ts.length ∧ i = .int .i64 j ∧ J (pre ++ xs) wr ∧ But V w wr ∧ (pre ++ xs).map Prod.fst ++ (itemsS path j (ts.drop j) ++ REST) = TOT) (fun i _ => ts.length + 1 - (intOf i).toNat)
  case atStart => exact ⟨0, [], Nat.zero_le _, rfl, by rw [List.append_nil]; exact HJ0.out, But.refl _ _, by rw [List.append_nil]; exact H0.out⟩
  case round =>
    obtain ⟨j, xs, hj, rfl, hjr, hbr, hrest⟩ := hrel
    have HR := hid hrest
    have HBR := hid hbr
    have HJR := hid hjr
    have HNR : Hid (n1 ≤ wr.heap.size) := Nat.le_trans HN.out hbr.size
    have c0 := KEEP0.out wr hbr
    have HC1 : Hid (∀ n, CallsIn Fence.wide n Tryz.prog 45 #[.slice (some ⟨wr.heap.size + 1, 0, none⟩) 2 2] ((wr.alloc (.cells #[.int .i64 j] 3)).alloc (.cells #[.slice Ap path.length cp, .slice (some ⟨wr.heap.size, 0, none⟩) 1 1] 26)) (CatPost wr (path ++ [(j : Int)]))) :=
      fun n => cat2 wr path [(j : Int)] _ ((HP.out wr hbr).wide (fun k h => h.1)) (by simp [In64]; omega) _ rfl 1 rfl (by omega) (by omega) _ rfl _ (.inl rfl) n
    clear hrest hbr hjr
    have HPF : Hid ((pre ++ xs ++ [((path ++ [(j : Int)], .bool true) : PosV)]).map Prod.fst <+: TOT) := by
      show _ <+: _
      rw [← HR.out]
      rcases Nat.lt_or_ge j ts.length with h | h
      · rw [List.drop_eq_getElem_cons h, itemsS_cons]; exact ⟨_, by simp; rfl⟩
      · rw [List.drop_of_length_le h, itemsS]; exact ⟨_, by simp; rfl⟩
    have HYY : Hid (∀ v1 w1, IntsR w1 (fun k => wr.heap.size ≤ k ∧ k < w1.heap.size) (path ++ [(j : Int)]) v1 → Below wr.heap.size wr w1 → YieldAt Fence.wide 0 Tryz.prog l #[v1] w1 fun e W' =>
        (e = .returned (.bool true) ∧ Hid (J (pre ++ (xs ++ [(path ++ [(j : Int)], v1)])) W') ∧ Hid (But V w W')) ∨ (e = .returned (.bool false) ∧ Hid (Jx (pre ++ (xs ++ [(path ++ [(j : Int)], v1)])) W'))) := by
      intro v1 w1 h1 h2
      have hh := HY.out (pre ++ xs) (path ++ [(j : Int)], v1) w1 (HJ.out _ _ _ HJR.out h2) (h1.wide fun k hk => ⟨Nat.le_trans HNR.out hk.1, hk.2, fun hv => by have := (HV.out _ _ HJR.out _ h2 k hv).2; have := hk.1; omega⟩) (by simpa using HPF.out)
      rw [List.append_assoc] at hh
      refine YieldAt.mono hh fun e W' h => h.imp (fun ⟨a, b, c⟩ => ⟨a, b, HBR.out.trans ((But.of_below h2 (HV.out _ _ HJR.out)).trans c)⟩) id
    have HPF2 : Hid (∀ v1, (pre ++ (xs ++ [((path ++ [(j : Int)], v1) : PosV)])).map Prod.fst <+: TOT) := fun v1 => by simpa using HPF.out
    clear HPF
    have ii : (0 : Int) ≤ (j : Int) := by omega
    rcases Nat.lt_or_ge j ts.length with hlt | hge
    · obtain ⟨ga, oa, A1, cap1, rfl, hga, ⟨_, _, _, e3⟩, _, hul, hkids⟩ := kids_at (HT.out w (But.refl _ _)) hlt
      have HK1 : Hid (∀ W, But V w W → W.cell? ⟨g, o + 3, none⟩ = some (.slice (some ⟨ga, oa, none⟩) ts.length cap) ∧ W.cell? ⟨ga, oa + j * 4 + 3, none⟩ = some (.slice A1 ts[j].kids.length cap1)) := fun W h => ⟨KEEP0.out W h, (h.cell (p := ⟨ga, oa + j * 4 + 3, none⟩) hga.1 hga.2).trans e3⟩
      have HKD : Hid (∀ W, But V w W → SliceR treeE W (OkV V W) ts[j].kids (.slice A1 ts[j].kids.length cap1)) := fun W h => hkids.but h
      have hul' : ts[j].kids.length ≤ 9223372036854775807 := by unfold maxLen at hul; omega
      have i1 : (j : Int) < (ts.length : Int) := by omega
      have d1 : ((j : Int) == (ts.length : Int)) = false := by simp; omega
      have HIT := hid (itemsS_drop path hlt)
      have HYY2 : Hid (∀ v1 w1, IntsR w1 (fun k => wr.heap.size ≤ k ∧ k < w1.heap.size) (path ++ [(j : Int)]) v1 → Below wr.heap.size wr w1 → YieldAt Fence.wide 0 Tryz.prog l #[v1] w1 fun e W' =>
        (e = .returned (.bool true) ∧ Hid (J (pre ++ (xs ++ [(path ++ [(j : Int)], v1)])) W') ∧ Hid (But V w W') ∧ W'.cell? ⟨g, o + 3, none⟩ = some (.slice (some ⟨ga, oa, none⟩) ts.length cap) ∧ W'.cell? ⟨ga, oa + j * 4 + 3, none⟩ = some (.slice A1 ts[j].kids.length cap1)) ∨ (e = .returned (.bool false) ∧ Hid (Jx (pre ++ (xs ++ [(path ++ [(j : Int)], v1)])) W'))) :=
        fun v1 w1 h1 h2 => YieldAt.mono (HYY.out v1 w1 h1 h2) fun e W' h => h.imp (fun ⟨a, b, c⟩ => ⟨a, b, c, HK1.out W' c.out⟩) id
      clear HYY
      have hgl : ga < w.heap.size := hga.1
      clear e3 hkids hga hul
      gi_wp2_with (first
        | (refine ⟨trivial, rfl, ?_⟩; gi_at_call 45; refine (HC1.out _).mono ?_; rintro e w1 ⟨v1, rfl, hr1, hb1⟩; obtain ⟨fn, tmps, assign, body, hy, hR⟩ := HYY2.out v1 w1 hr1 hb1; clear hr1 hb1)
        | ((try refine ⟨rfl, ?_⟩); refine hR.mono ?_; clear hR; rintro e W2 (⟨rfl, HJ2, HB2, c2, f3⟩ | ⟨rfl, HX2⟩)))
      · have HST : Hid ((pre ++ (xs ++ [((path ++ [(j : Int)], v1) : PosV)])).map Prod.fst ++ (slotsS path j 0 (ts[j].kids.drop 0) ++ (itemsS path (j + 1) (ts.drop (j + 1)) ++ REST)) = TOT) := by show _ = _; rw [← HR.out, HIT.out]; simp
        gi_loopw [45] (fun i W => ∃ (k : Nat) (ys : List PosV), k ≤ ts[j].kids.length ∧ i = .int .i64 k ∧ J (pre ++ ys) W ∧ But V w W ∧ (pre ++ ys).map Prod.fst ++ (slotsS path j k (ts[j].kids.drop k) ++ (itemsS path (j + 1) (ts.drop (j + 1)) ++ REST)) = TOT) (fun i _ => ts[j].kids.length - (intOf i).toNat)
        case atStart => exact ⟨0, _, Nat.zero_le _, rfl, HJ2.out, HB2.out, HST.out⟩
        case round =>
          clear HR HBR HJR HNR HC1 HYY2 HPF2 HJ2 HB2 c2 f3 HST c0
          obtain ⟨k, ys, hk, rfl, hjr2, hbr2, hrest2⟩ := hrel
          have HR := hid hrest2
          have HBR := hid hbr2
          have HJR := hid hjr2
          have HNR : Hid (n1 ≤ wr.heap.size) := Nat.le_trans HN.out hbr2.size
          obtain ⟨c2, f3⟩ := HK1.out wr hbr2
          rcases Nat.lt_or_ge k ts[j].kids.length with hlt2 | hge2
          · have HSD := hid (slotsS_drop path j hlt2)
            obtain ⟨g1, o1, A2, cap2, rfl, hg1, ⟨_, _, _, e3⟩, _, _, hkids2⟩ := kids_at (HKD.out w (But.refl _ _)) hlt2
            have i2 : (k : Int) < (ts[j].kids.length : Int) := by omega
            have i3 : (0 : Int) ≤ (k : Int) := by omega
            have HVI : Hid (∀ w1 v1, Below wr.heap.size wr w1 → IntsR w1 (fun i => wr.heap.size ≤ i ∧ i < w1.heap.size) (path ++ [(j : Int), (k : Int)]) v1 → ∃ A3 c3, v1 = .slice A3 (path.length + 2) c3 ∧
                Hid (CallsIn Fence.wide 0 Tryz.prog 113 #[.pointer (some ⟨g1, o1 + k * 4, none⟩), .slice A3 (path.length + 2) c3, .func (.yield l) #[] #[]] w1 fun e W' =>
                  ∃ b : Bool, e = .returned (.bool b) ∧ Hid ((b = true ∧ ∃ zs : List PosV, J (pre ++ (ys ++ zs)) W' ∧ But V w W' ∧ (pre ++ (ys ++ zs)).map Prod.fst ++ (slotsS path j (k + 1) (ts[j].kids.drop (k + 1)) ++ (itemsS path (j + 1) (ts.drop (j + 1)) ++ REST)) = TOT) ∨ (b = false ∧ ∃ zs : List PosV, (pre ++ (ys ++ zs)).map Prod.fst <+: TOT ∧ Jx (pre ++ (ys ++ zs)) W')))) := by
              intro w1 v1 hb1 hr1
              obtain ⟨A3, c3, rfl⟩ := hr1.form
              have hl : (path ++ [(j : Int), (k : Int)]).length = path.length + 2 := by simp
              rw [hl] at hr1 ⊢
              have hbw : But V w w1 := HBR.out.trans (But.of_below hb1 (HV.out _ _ HJR.out))
              have hR := HR.out
              rw [HSD.out, List.append_assoc] at hR
              refine ⟨A3, c3, rfl, (HIH.out j k hlt hlt2 g1 (o1 + k * 4) A2 A3 cap2 c3 (pre ++ ys) _ w1 ((hbw.cell (p := ⟨g1, o1 + k * 4 + 3, none⟩) hg1.1 hg1.2).trans e3) (hbw.ok _ hg1) (hkids2.but hbw) (hr1.wide fun i hi => ⟨hi.2, fun hv => ?_⟩) (Nat.le_trans HNR.out hb1.size) (HJ.out _ _ _ HJR.out hb1) hR).mono ?_⟩
              · have := (HV.out _ _ HJR.out _ hb1 i hv).2; have := hi.1; omega
              · rintro e W' (⟨rfl, zs, hz, hj, hb⟩ | ⟨rfl, zs, hz, hj⟩)
                · refine ⟨true, rfl, .inl ⟨rfl, zs, by rw [← List.append_assoc]; exact hj, hbw.trans hb, ?_⟩⟩
                  rw [← hR, ← List.append_assoc pre, List.map_append, hz]; simp
                · exact ⟨false, rfl, .inr ⟨rfl, zs, by rw [← List.append_assoc]; exact hz, by rw [← List.append_assoc]; exact hj⟩⟩
            have HC2 : Hid (∀ n W', (W' = (wr.alloc (.cells #[.int .i64 j, .int .i64 k] 3)).alloc (.cells #[.slice Ap path.length cp, .slice (some ⟨wr.heap.size, 0, none⟩) 2 2] 26) ∨ W' = ((wr.alloc (.cells #[.int .i64 j, .int .i64 k] 3)).alloc (.cells #[.slice Ap path.length cp, .slice (some ⟨wr.heap.size, 0, none⟩) 2 2] 26)).drew) → CallsIn Fence.wide n Tryz.prog 45 #[.slice (some ⟨wr.heap.size + 1, 0, none⟩) 2 2] W' (CatPost wr (path ++ [(j : Int), (k : Int)]))) :=
              fun n W' hW => cat2 wr path [(j : Int), (k : Int)] _ ((HP.out wr hbr2).wide (fun k h => h.1)) (by simp [In64]; omega) _ rfl 2 rfl (by omega) (by omega) _ rfl W' hW n
            clear hkids2 e3 hg1 hrest2 hbr2 hjr2
            have hgw : ga < wr.heap.size := by have := HBR.out.size; have := hgl; omega
            gi_wp2_with fail
            gi_region_with (first
              | (refine ⟨trivial, rfl, ?_⟩; gi_at_call 45; refine (HC2.out _ _ (by first | exact .inl rfl | exact .inr rfl)).mono ?_; rintro e w1 ⟨v1, rfl, hr1, hb1⟩; obtain ⟨A3, c3, rfl, HVV⟩ := HVI.out w1 v1 hb1 hr1; obtain ⟨c5, f5⟩ := HK1.out w1 (HBR.out.trans (But.of_below hb1 (HV.out _ _ HJR.out))); clear hr1 hb1)
              | (refine ⟨trivial, rfl, ?_⟩; gi_at_call 113; refine HVV.out.mono ?_; clear HVV; rintro e W3 ⟨b, rfl, HB3⟩))
            all_goals
              obtain ⟨q, hq⟩ : ∃ q, q = HB3.out := ⟨_, rfl⟩
              clear hq
              rcases q with ⟨rfl, zs, q1, q2, q3⟩ | ⟨rfl, zs, q1, q2⟩
              · have Q1 := hid q1
                have Q2 := hid q2
                have Q3 := hid q3
                clear q1 q2 q3 HB3
                gi_wp2_with fail
                go_roundw
                case rel => exact ⟨k + 1, ys ++ zs, by omega, by go_num, Q1.out, Q2.out, Q3.out⟩
                case measure => simp [intOf]; omega
              · have Q1 := hid q1
                have Q2 := hid q2
                clear q1 q2 HB3
                gi_wp2_with fail
                exact HNO.out _ _ Q1.out Q2.out
          · have HF : Hid ((pre ++ ys).map Prod.fst ++ (itemsS path (j + 1) (ts.drop (j + 1)) ++ REST) = TOT) := by show _ = _; rw [← HR.out, show ts[j].kids.drop k = [] from List.drop_of_length_le hge2, slotsS, List.nil_append]
            clear hrest2 hbr2 hjr2
            gi_wp2_with fail
            go_roundw
            case rel => exact ⟨j + 1, ys, by omega, by go_num, HJR.out, HBR.out, HF.out⟩
            case measure => simp [intOf]; omega
      · exact HNO.out _ _ (HPF2.out v1) HX2.out
    · have hje : j = ts.length := by omega
      have d1 : ((j : Int) == (ts.length : Int)) = true := by simp; omega
      have HF : Hid ((pre ++ (xs ++ [((path ++ [(j : Int)], .bool true) : PosV)])).map Prod.fst ++ REST = TOT) := by show _ = _; rw [← HR.out, List.drop_of_length_le (by omega), itemsS]; simp
      have HFV : Hid (∀ v1, (pre ++ (xs ++ [((path ++ [(j : Int)], v1) : PosV)])).map Prod.fst ++ REST = TOT) := fun v1 => by rw [← HF.out]; simp
      have HYY2 : Hid (∀ v1 w1, IntsR w1 (fun k => wr.heap.size ≤ k ∧ k < w1.heap.size) (path ++ [(j : Int)]) v1 → Below wr.heap.size wr w1 → YieldAt Fence.wide 0 Tryz.prog l #[v1] w1 fun e W' =>
        (e = .returned (.bool true) ∧ Hid (J (pre ++ (xs ++ [(path ++ [(j : Int)], v1)])) W') ∧ Hid (But V w W') ∧ W'.cell? ⟨g, o + 3, none⟩ = some (.slice A ts.length cap)) ∨ (e = .returned (.bool false) ∧ Hid (Jx (pre ++ (xs ++ [(path ++ [(j : Int)], v1)])) W'))) :=
        fun v1 w1 h1 h2 => YieldAt.mono (HYY.out v1 w1 h1 h2) fun e W' h => h.imp (fun ⟨a, b, c⟩ => ⟨a, b, c, KEEP0.out W' c.out⟩) id
      clear hje hge HF HYY
      gi_wp2_with (first
        | (refine ⟨trivial, rfl, ?_⟩; gi_at_call 45; refine (HC1.out _).mono ?_; rintro e w1 ⟨v1, rfl, hr1, hb1⟩; obtain ⟨fn, tmps, assign, body, hy, hR⟩ := HYY2.out v1 w1 hr1 hb1; clear hr1 hb1)
        | ((try refine ⟨rfl, ?_⟩); refine hR.mono ?_; clear hR; rintro e W2 (⟨rfl, HJ2, HB2, c2⟩ | ⟨rfl, HX2⟩)))
      · exact HRES.out _ _ (HFV.out v1) HJ2.out HB2.out
      · exact HNO.out _ _ (HPF2.out v1) HX2.out
end Go.Proofs.YtmahiejfniaahaaGreatDoor
set_option linter.unusedVariables false
set_option linter.unusedSimpArgs false
set_option maxRecDepth 100000
namespace Go.Proofs.YtmahiejfniaahaaGreatDoor
open Go Go.RowKit Go.Shelf
attribute [local go_sem] Oper.semAt_some
theorem ints_mono {w w' : World} {S S' : Nat → Prop} {xs : List Int} {v : Value} (h : IntsR w S xs v) (hk : ∀ a u, w.cell? a = some u → w'.cell? a = some u) (hS : ∀ k, S k → S' k) : IntsR w' S' xs v := by
  obtain ⟨A, cap, cs, rfl, h1, h2, h3, h4⟩ := h
  refine ⟨A, cap, cs, rfl, h1, h2, fun hn => ?_, listR_int.2 (listR_int.1 h4)⟩
  obtain ⟨g, o, e, hb, hc⟩ := h3 hn
  exact ⟨g, o, e, hS _ hb, fun j u hu => hk _ _ (hc j u hu)⟩
theorem prd_own (n1 : Nat) (x : PosV) (W : World) (l : Nat) (o o' : Obj) (h : W.heap[l]? = some o) (ho : o.isCells = false) (hx : PRd n1 x W) : PRd n1 x (W.putObj l o') :=
  ints_mono hx (fun a u hu => cell_kept hu (grownBy_putObj' W l o') (fun r e => by cases e; exact ⟨o, h, ho⟩)) (fun k hk => ⟨hk.1, by simpa using hk.2⟩)
theorem prdV_own (V : World → Nat → Prop) (n1 : Nat) (x : PosV) (W : World) (l : Nat) (o o' : Obj) (hb : But V W (W.putObj l o')) (h : W.heap[l]? = some o) (ho : o.isCells = false) (hx : PRdV V n1 x W) : PRdV V n1 x (W.putObj l o') :=
  ints_mono hx (fun a u hu => cell_kept hu (grownBy_putObj' W l o') (fun r e => by cases e; exact ⟨o, h, ho⟩)) (fun k hk => ⟨hk.1, by simpa using hk.2.1, fun e => hk.2.2 (hb.less k hk.2.1 e)⟩)
theorem prdV_form {V : World → Nat → Prop} {n1 : Nat} {xl : List Int} {xv : Value} {W : World} (h : PRdV V n1 (xl, xv) W) : ∃ A c, xv = .slice A xl.length c ∧ IntsR W (fun k => n1 ≤ k ∧ k < W.heap.size ∧ ¬ V W k) xl (.slice A xl.length c) := by
  obtain ⟨A, c, e⟩ := SliceR.form h
  dsimp only at e
  subst e
  exact ⟨A, c, rfl, h⟩
theorem prd_form {n1 : Nat} {xl : List Int} {xv : Value} {W : World} (h : PRd n1 (xl, xv) W) : ∃ A c, xv = .slice A xl.length c ∧ IntsR W (fun k => n1 ≤ k ∧ k < W.heap.size) xl (.slice A xl.length c) := by
  obtain ⟨A, c, e⟩ := SliceR.form h
  dsimp only at e
  subst e
  exact ⟨A, c, rfl, h⟩
theorem own_box {β : Type} (B : Nat) (a : Addr) (f : β → Value) : OwnFrom B (fun (pre : β) W => W.cell? a = some (f pre) ∧ W.frozen? a = false) :=
  Own.from (fun s A C row hs hg hr => ⟨cell_kept hs.1 hg hr, (frozen_kept hs.1 hg hr).trans hs.2⟩) B
theorem own_cell {β : Type} (B : Nat) (a : Addr) (f : β → Value) : OwnFrom B (fun (pre : β) W => W.cell? a = some (f pre)) :=
  Own.from (I := fun (pre : β) W => W.cell? a = some (f pre)) (fun s A C row hs hg hr => cell_kept hs hg hr) B
theorem cell_al {W : World} {a : Addr} {v : Value} (h : W.cell? a = some v) (o : Obj) : (W.alloc o).cell? a = some v := cell_kept h (World.grownBy_alloc W o none) (fun r e => by cases e)
theorem frozen_al {W : World} {a : Addr} {v : Value} (h : W.cell? a = some v ∧ W.frozen? a = false) (o : Obj) : (W.alloc o).cell? a = some v ∧ (W.alloc o).frozen? a = false :=
  ⟨cell_al h.1 o, (frozen_kept h.1 (World.grownBy_alloc W o none) (fun r e => by cases e)).trans h.2⟩
theorem cell_put {W : World} {a : Addr} {v : Value} {D : Nat} {o : Obj} (h : W.cell? a = some v) (o' : Obj) (hD : W.heap[D]? = some o) (ho : o.isCells = false) : (W.putObj D o').cell? a = some v :=
  cell_kept h (grownBy_putObj' W D o') (fun r e => by cases e; exact ⟨o, hD, ho⟩)
theorem cell_set_far {W : World} {q a : Addr} (v : Value) (_ : True) (h : q.block ≠ a.block) : (W.setCell a v).cell? q = W.cell? q := World.cell?_of_block (Below.heap_setCell W a v q.block h)
theorem own_ints {β : Type} (B n1 : Nat) (f : β → List Int) (g : β → Value) : OwnFrom B (fun (pre : β) W => IntsR W (fun k => n1 ≤ k ∧ k < W.heap.size) (f pre) (g pre)) :=
  Own.from (I := fun (pre : β) W => IntsR W (fun k => n1 ≤ k ∧ k < W.heap.size) (f pre) (g pre)) (fun s A C row hs hg hr => ints_mono hs (fun a u hu => cell_kept hu hg hr) (fun k hk => ⟨hk.1, Nat.lt_of_lt_of_le hk.2 hg.size⟩)) B
theorem own_pure {β : Type} (B : Nat) (p : β → Prop) : OwnFrom B (fun (pre : β) _ => p pre) := fun _ _ _ _ hs _ _ => hs
def VP (n0 n2 N : Nat) (k : Nat) : Prop := (n0 ≤ k ∧ k < n2) ∨ (N ≤ k ∧ k < N + 2)
set_option maxHeartbeats 1000000 in
theorem places1_seq (V : World → Nat → Prop) (t : Tree) (n0 Bn : Nat) (A : Option Addr) (cap : Nat) (w : World) (hn : n0 ≤ Bn) (hBn : Bn < w.heap.size) (hc : w.cell? ⟨Bn, 3, none⟩ = some (.slice A t.kids.length cap))
    (hV : ∀ W k, Below w.heap.size w W → V W k → n0 ≤ k ∧ k ≠ Bn)
    (hv : SliceR treeE w (Lt n0) t.kids (.slice A t.kids.length cap)) (hcnt : countS t ≤ 400000) :
    SeqRd Tryz.prog 112 #[.pointer (some ⟨Bn, 0, none⟩)] (fun x : PosV => x.2) (PRdV V (w.heap.size + 2)) (But V) (Gdv V) (fun xs => xs.map Prod.fst = allS [] t) (fun pre => pre.map Prod.fst <+: allS [] t) w := by
  intro l J Jx W hW hsz hJ hJx hGd hY h0
  have HV := visit_any l (w.heap.size + 2) V (allS [] t) J Jx hGd hJ hJx hY t [] Bn 0 A none cap 0 [] [] W (by rw [Nat.zero_add]; exact (hW.cell (p := ⟨Bn, 3, none⟩) hBn).trans hc)
    ⟨by have := hW.size; omega, fun e => (hV W Bn hW e).2 rfl⟩ ((hv.below (hW.mono (by omega)) (Nat.le_refl _)).wide fun k hk => ⟨by have := hW.size; unfold Lt at hk; omega, fun e => by have := (hV W k hW e).1; unfold Lt at hk; omega⟩) (SliceR.nil_ 0 (by simp [maxLen]) none) (by simp; omega) hsz h0 (by simp)
  simp only [List.length_nil] at HV
  have HH : Hid (CallsIn Fence.wide 0 Tryz.prog 113 #[.pointer (some ⟨Bn, 0, none⟩), .slice none 0 0, .func (.yield l) #[] #[]] W (VisitRes (allS [] t) (allS [] t) V J Jx [] W)) := HV
  clear HV hY h0 hW hc hv hV hGd
  refine callsIn_of_wp Tryz.func112 rfl trivial ?_ rfl
  simp only [Tryz.ntmps112, List.size_toArray, List.length_cons, List.length_nil, Nat.reduceAdd, Nat.reduceSub, Array.replicate_succ, Array.replicate_zero, List.push_toArray, List.append_toArray, List.nil_append, List.cons_append]
  gi_wp2_with (refine ⟨trivial, rfl, ?_⟩; gi_at_call 113; refine HH.out.mono ?_; rintro e W1 (⟨rfl, xs, hx, hj, _⟩ | ⟨rfl, q, hq, hj⟩))
  · go_end0
    exact ⟨⟨_, rfl⟩, .inl ⟨xs, hx, by simpa using hj⟩⟩
  · go_end0
    exact ⟨⟨_, rfl⟩, .inr ⟨q, by simpa using hq, by simpa using hj⟩⟩
theorem places_any (vs : Array Value) (h4 : ∃ a b c d, vs = #[a, b, c, d]) (w : World) (n : Nat) :
    CallsIn Fence.wide n Tryz.prog 88 #[.agg vs] w fun e w' => e = .returned (.func (.func 112) #[] #[.pointer (some ⟨w.heap.size, 0, none⟩)]) ∧ w' = w.alloc (.cells vs 24) := by
  obtain ⟨a, b, c, d, rfl⟩ := h4
  refine callsIn_of_wp Tryz.func88 rfl trivial ?_ rfl
  simp only [Tryz.ntmps88, List.size_toArray, List.length_cons, List.length_nil, Nat.reduceAdd, Nat.reduceSub, Array.replicate_succ, Array.replicate_zero, List.push_toArray, List.append_toArray, List.nil_append, List.cons_append]
  gi_wp2
  go_ret
  exact ⟨rfl, rfl⟩
theorem wpIn_placesV {g : Operand} {p : Tmp} (q : Tmp) {assign body : Code} {Q : Exit → Act → World → Prop} {a : Act} {w : World} (V : World → Nat → Prop) (t : Tree) (n0 Bn : Nat) (A : Option Addr) (cap : Nat)
    (hg : a.eval g = .func (.func 112) #[] #[.pointer (some ⟨Bn, 0, none⟩)]) (hn : n0 ≤ Bn) (hBn : Bn < w.heap.size) (hc : w.cell? ⟨Bn, 3, none⟩ = some (.slice A t.kids.length cap))
    (hV : ∀ W k, Below w.heap.size w W → V W k → n0 ≤ k ∧ k ≠ Bn)
    (hv : SliceR treeE w (Lt n0) t.kids (.slice A t.kids.length cap)) (hcnt : countS t ≤ 400000)
    (hKb : ∀ (W : World) (l : Nat) (o o' : Obj), w.heap.size ≤ l → l < w.heap.size + 2 → W.heap[l]? = some o → o.isCells = false → But V W (W.putObj l o'))
    (I : List PosV → World → Prop) (Ix : Code → List PosV → World → Prop) (hI : OwnFrom w.heap.size I) (hGd : ∀ s A, I s A → w.heap.size + 2 ≤ A.heap.size → Gdv V A) (hIx : ∀ c, OwnFrom w.heap.size (Ix c)) (h0 : I [] w)
    (hassign : ∀ (l : Nat) (x : PosV) (W : World) (K : Act → World → Prop), K { tmps := (a.tmps.setIfInBounds p x.2).setIfInBounds q x.2, defers := [] } W →
      assign.wpIn (Fence.wide.inRound l) 0 Tryz.prog (Exit.then K (fun _ _ _ => False)) { tmps := a.tmps.setIfInBounds p x.2, defers := [] } W)
    (hbody : ∀ (l : Nat) (pre : List PosV) (x : PosV) (W : World), I pre W → PRdV V (w.heap.size + 2) x W → (pre ++ [x]).map Prod.fst <+: allS [] t → body.wpIn (Fence.wide.inRound l) 0 Tryz.prog (ownPostK (But V) I Ix (pre ++ [x]) W) { tmps := (a.tmps.setIfInBounds p x.2).setIfInBounds q x.2, defers := [] } W)
    (hdone : ∀ (D : Nat) (xs : List PosV) (W : World), w.heap.size ≤ D → xs.map Prod.fst = allS [] t → I xs W → W.heap[D]? = some (.deferred (some [])) → Q .normal { a with defers := { target := .collected D, args := #[] } :: a.defers } W)
    (hstop : ∀ (D : Nat) (c : Code) (pre : List PosV) (W : World), w.heap.size ≤ D → pre.map Prod.fst <+: allS [] t → Ix c pre W → W.heap[D]? = some (.deferred (some [])) → c.wpIn Fence.wide 0 Tryz.prog Q { a with defers := { target := .collected D, args := #[] } :: a.defers } W) :
    (Code.rangeFunc g #[p] assign body).wpIn Fence.wide 0 Tryz.prog Q a w :=
  wpIn_range_rd hg (enters_of Tryz.func112 (by kernel_rfl) rfl) (places1_seq V t n0 Bn A cap w hn hBn hc hV hv hcnt) (fun _ _ _ h k => h.trans k)
    hKb (fun x W l o o' h0 h1 h2 h3 h4 => prdV_own V _ x W l o o' (hKb W l o o' h0 h1 h2 h3) h2 h3 h4) I Ix hI hGd hIx h0 (fun x => { tmps := (a.tmps.setIfInBounds p x.2).setIfInBounds q x.2, defers := [] }) hassign hbody hdone hstop
theorem wpIn_places {g : Operand} {p : Tmp} (q : Tmp) {assign body : Code} {Q : Exit → Act → World → Prop} {a : Act} {w : World} (t : Tree) (n0 n2 Bn : Nat) (A : Option Addr) (cap : Nat)
    (hg : a.eval g = .func (.func 112) #[] #[.pointer (some ⟨Bn, 0, none⟩)]) (hn : n0 ≤ n2) (hn2 : n2 ≤ Bn) (hBn : Bn < w.heap.size) (hc : w.cell? ⟨Bn, 3, none⟩ = some (.slice A t.kids.length cap))
    (hv : SliceR treeE w (Lt n0) t.kids (.slice A t.kids.length cap)) (hcnt : countS t ≤ 400000)
    (I : List PosV → World → Prop) (Ix : Code → List PosV → World → Prop) (hI : OwnFrom w.heap.size I) (hIx : ∀ c, OwnFrom w.heap.size (Ix c)) (h0 : I [] w)
    (hassign : ∀ (l : Nat) (x : PosV) (W : World) (K : Act → World → Prop), K { tmps := (a.tmps.setIfInBounds p x.2).setIfInBounds q x.2, defers := [] } W →
      assign.wpIn (Fence.wide.inRound l) 0 Tryz.prog (Exit.then K (fun _ _ _ => False)) { tmps := a.tmps.setIfInBounds p x.2, defers := [] } W)
    (hbody : ∀ (l : Nat) (pre : List PosV) (x : PosV) (W : World), I pre W → PRd (w.heap.size + 2) x W → (pre ++ [x]).map Prod.fst <+: allS [] t → body.wpIn (Fence.wide.inRound l) 0 Tryz.prog (ownPostK (But (fun _ => VP n0 n2 w.heap.size)) I Ix (pre ++ [x]) W) { tmps := (a.tmps.setIfInBounds p x.2).setIfInBounds q x.2, defers := [] } W)
    (hdone : ∀ (D : Nat) (xs : List PosV) (W : World), w.heap.size ≤ D → xs.map Prod.fst = allS [] t → I xs W → W.heap[D]? = some (.deferred (some [])) → Q .normal { a with defers := { target := .collected D, args := #[] } :: a.defers } W)
    (hstop : ∀ (D : Nat) (c : Code) (pre : List PosV) (W : World), w.heap.size ≤ D → pre.map Prod.fst <+: allS [] t → Ix c pre W → W.heap[D]? = some (.deferred (some [])) → c.wpIn Fence.wide 0 Tryz.prog Q { a with defers := { target := .collected D, args := #[] } :: a.defers } W) :
    (Code.rangeFunc g #[p] assign body).wpIn Fence.wide 0 Tryz.prog Q a w :=
  wpIn_placesV q (fun _ => VP n0 n2 w.heap.size) t n0 Bn A cap hg (by omega) hBn hc (fun W k _ h => by unfold VP at h; omega) hv hcnt (fun W l o o' h1 h2 _ _ => But.putObj W l o' (.inr ⟨h1, h2⟩)) I Ix hI
    (fun s A _ hs W' _ k hk => ⟨hk, by unfold VP at hk; omega⟩) hIx h0 hassign (fun l pre x W h1 h2 h3 => hbody l pre x W h1 (SliceR.wide h2 fun k hk => ⟨hk.1, hk.2.1⟩) h3) hdone hstop
end Go.Proofs.YtmahiejfniaahaaGreatDoor
