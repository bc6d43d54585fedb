/- position.places: a range over the positions of a tree. -/
import Derived.Test.YtognlokeadlpbaaVisit
set_option linter.unusedVariables false
set_option linter.unusedSimpArgs false
set_option maxRecDepth 100000
namespace Go.Proofs.Ytognlokeadlpbaa
open Go Go.RowKit Go.Shelf
attribute [local go_sem] Oper.semAt_some

theorem ints_mono {w w' : World} {S S' : Nat → Prop} {xs : List Int} {v : Value} (h : IntsR w S xs v) (hk : ∀ a u, w.cell? a = some u → w'.cell? a = some u) (hS : ∀ k, S k → S' k) : IntsR w' S' xs v := by
  obtain ⟨A, cap, cs, rfl, h1, h2, h3, h4⟩ := h
  refine ⟨A, cap, cs, rfl, h1, h2, fun hn => ?_, listR_int.2 (listR_int.1 h4)⟩
  obtain ⟨g, o, e, hb, hc⟩ := h3 hn
  exact ⟨g, o, e, hS _ hb, fun j u hu => hk _ _ (hc j u hu)⟩

theorem prd_own (n1 : Nat) (x : PosV) (W : World) (l : Nat) (o o' : Obj) (h : W.heap[l]? = some o) (ho : o.isCells = false) (hx : PRd n1 x W) : PRd n1 x (W.putObj l o') :=
  ints_mono hx (fun a u hu => cell_kept hu (grownBy_putObj' W l o') (fun r e => by cases e; exact ⟨o, h, ho⟩)) (fun k hk => ⟨hk.1, by simpa using hk.2⟩)

theorem prdV_own (V : World → Nat → Prop) (n1 : Nat) (x : PosV) (W : World) (l : Nat) (o o' : Obj) (hb : But V W (W.putObj l o')) (h : W.heap[l]? = some o) (ho : o.isCells = false) (hx : PRdV V n1 x W) : PRdV V n1 x (W.putObj l o') :=
  ints_mono hx (fun a u hu => cell_kept hu (grownBy_putObj' W l o') (fun r e => by cases e; exact ⟨o, h, ho⟩)) (fun k hk => ⟨hk.1, by simpa using hk.2.1, fun e => hk.2.2 (hb.less k hk.2.1 e)⟩)
theorem prdV_form {V : World → Nat → Prop} {n1 : Nat} {xl : List Int} {xv : Value} {W : World} (h : PRdV V n1 (xl, xv) W) : ∃ A c, xv = .slice A xl.length c ∧ IntsR W (fun k => n1 ≤ k ∧ k < W.heap.size ∧ ¬ V W k) xl (.slice A xl.length c) := by
  obtain ⟨A, c, e⟩ := SliceR.form h
  dsimp only at e
  subst e
  exact ⟨A, c, rfl, h⟩
theorem prd_form {n1 : Nat} {xl : List Int} {xv : Value} {W : World} (h : PRd n1 (xl, xv) W) : ∃ A c, xv = .slice A xl.length c ∧ IntsR W (fun k => n1 ≤ k ∧ k < W.heap.size) xl (.slice A xl.length c) := by
  obtain ⟨A, c, e⟩ := SliceR.form h
  dsimp only at e
  subst e
  exact ⟨A, c, rfl, h⟩

/-- What a walk over the positions hands on, of its own boxes. -/
theorem own_box {β : Type} (B : Nat) (a : Addr) (f : β → Value) : OwnFrom B (fun (pre : β) W => W.cell? a = some (f pre) ∧ W.frozen? a = false) :=
  Own.from (fun s A C row hs hg hr => ⟨cell_kept hs.1 hg hr, (frozen_kept hs.1 hg hr).trans hs.2⟩) B
theorem own_cell {β : Type} (B : Nat) (a : Addr) (f : β → Value) : OwnFrom B (fun (pre : β) W => W.cell? a = some (f pre)) :=
  Own.from (I := fun (pre : β) W => W.cell? a = some (f pre)) (fun s A C row hs hg hr => cell_kept hs hg hr) B
theorem cell_al {W : World} {a : Addr} {v : Value} (h : W.cell? a = some v) (o : Obj) : (W.alloc o).cell? a = some v := cell_kept h (World.grownBy_alloc W o none) (fun r e => by cases e)
theorem frozen_al {W : World} {a : Addr} {v : Value} (h : W.cell? a = some v ∧ W.frozen? a = false) (o : Obj) : (W.alloc o).cell? a = some v ∧ (W.alloc o).frozen? a = false :=
  ⟨cell_al h.1 o, (frozen_kept h.1 (World.grownBy_alloc W o none) (fun r e => by cases e)).trans h.2⟩
theorem cell_put {W : World} {a : Addr} {v : Value} {D : Nat} {o : Obj} (h : W.cell? a = some v) (o' : Obj) (hD : W.heap[D]? = some o) (ho : o.isCells = false) : (W.putObj D o').cell? a = some v :=
  cell_kept h (grownBy_putObj' W D o') (fun r e => by cases e; exact ⟨o, hD, ho⟩)
theorem cell_set_far {W : World} {q a : Addr} (v : Value) (_ : True) (h : q.block ≠ a.block) : (W.setCell a v).cell? q = W.cell? q := World.cell?_of_block (Below.heap_setCell W a v q.block h)
theorem own_ints {β : Type} (B n1 : Nat) (f : β → List Int) (g : β → Value) : OwnFrom B (fun (pre : β) W => IntsR W (fun k => n1 ≤ k ∧ k < W.heap.size) (f pre) (g pre)) :=
  Own.from (I := fun (pre : β) W => IntsR W (fun k => n1 ≤ k ∧ k < W.heap.size) (f pre) (g pre)) (fun s A C row hs hg hr => ints_mono hs (fun a u hu => cell_kept hu hg hr) (fun k hk => ⟨hk.1, Nat.lt_of_lt_of_le hk.2 hg.size⟩)) B
theorem own_pure {β : Type} (B : Nat) (p : β → Prop) : OwnFrom B (fun (pre : β) _ => p pre) := fun _ _ _ _ hs _ _ => hs
theorem own_ex {β γ : Type} (B : Nat) (I : γ → β → World → Prop) (h : ∀ c, OwnFrom B (I c)) : OwnFrom B (fun (pre : β) W => ∃ c, I c pre W) := fun s A C row ⟨c, hc⟩ hg hr => ⟨c, h c s A C row hc hg hr⟩

/-- The blocks that a body of a range over the positions may write: the caller's own, and the loop's. -/
def VP (n0 n2 N : Nat) (k : Nat) : Prop := (n0 ≤ k ∧ k < n2) ∨ (N ≤ k ∧ k < N + 2)

set_option maxHeartbeats 1000000 in
theorem places1_seq (V : World → Nat → Prop) (t : Tree) (n0 Bn : Nat) (A : Option Addr) (cap : Nat) (w : World) (hn : n0 ≤ Bn) (hBn : Bn < w.heap.size) (hc : w.cell? ⟨Bn, 3, none⟩ = some (.slice A t.kids.length cap))
    (hV : ∀ W k, Below w.heap.size w W → V W k → n0 ≤ k ∧ k ≠ Bn)
    (hv : SliceR treeE w (Lt n0) t.kids (.slice A t.kids.length cap)) (hcnt : countS t ≤ 400000) :
    SeqRd Try.prog 82 #[.pointer (some ⟨Bn, 0, none⟩)] (fun x : PosV => x.2) (PRdV V (w.heap.size + 2)) (But V) (Gdv V) (fun xs => xs.map Prod.fst = allS [] t) (fun pre => pre.map Prod.fst <+: allS [] t) w := by
  intro l J Jx W hW hsz hJ hJx hGd hY h0
  have HV := visit_any l (w.heap.size + 2) V (allS [] t) J Jx hGd hJ hJx hY t [] Bn 0 A none cap 0 [] [] W (by rw [Nat.zero_add]; exact (hW.cell (p := ⟨Bn, 3, none⟩) hBn).trans hc)
    ⟨by have := hW.size; omega, fun e => (hV W Bn hW e).2 rfl⟩ ((hv.below (hW.mono (by omega)) (Nat.le_refl _)).wide fun k hk => ⟨by have := hW.size; unfold Lt at hk; omega, fun e => by have := (hV W k hW e).1; unfold Lt at hk; omega⟩) (SliceR.nil_ 0 (by simp [maxLen]) none) (by simp; omega) hsz h0 (by simp)
  simp only [List.length_nil] at HV
  have HH : Hid (CallsIn Fence.wide 0 Try.prog 83 #[.pointer (some ⟨Bn, 0, none⟩), .slice none 0 0, .func (.yield l) #[] #[]] W (VisitRes (allS [] t) (allS [] t) V J Jx [] W)) := HV
  clear HV hY h0 hW hc hv hV hGd
  refine callsIn_of_wp Try.func82 rfl trivial ?_ rfl
  simp only [Try.ntmps82, List.size_toArray, List.length_cons, List.length_nil, Nat.reduceAdd, Nat.reduceSub, Array.replicate_succ, Array.replicate_zero, List.push_toArray, List.append_toArray, List.nil_append, List.cons_append]
  gi_wp2_with (refine ⟨trivial, rfl, ?_⟩; gi_at_call 83; refine HH.out.mono ?_; rintro e W1 (⟨rfl, xs, hx, hj, _⟩ | ⟨rfl, q, hq, hj⟩))
  · go_end0
    exact ⟨⟨_, rfl⟩, .inl ⟨xs, hx, by simpa using hj⟩⟩
  · go_end0
    exact ⟨⟨_, rfl⟩, .inr ⟨q, by simpa using hq, by simpa using hj⟩⟩

/-- places(n): the argument is boxed; the function value holds the box. -/
theorem places_any (vs : Array Value) (h4 : ∃ a b c d, vs = #[a, b, c, d]) (w : World) (n : Nat) :
    CallsIn Fence.wide n Try.prog 66 #[.agg vs] w fun e w' => e = .returned (.func (.func 82) #[] #[.pointer (some ⟨w.heap.size, 0, none⟩)]) ∧ w' = w.alloc (.cells vs 24) := by
  obtain ⟨a, b, c, d, rfl⟩ := h4
  refine callsIn_of_wp Try.func66 rfl trivial ?_ rfl
  simp only [Try.ntmps66, List.size_toArray, List.length_cons, List.length_nil, Nat.reduceAdd, Nat.reduceSub, Array.replicate_succ, Array.replicate_zero, List.push_toArray, List.append_toArray, List.nil_append, List.cons_append]
  gi_wp2
  go_ret
  exact ⟨rfl, rfl⟩

/-- 'for p := range places(n) { .. }', whatever the body may write. -/
theorem wpIn_placesV {g : Operand} {p : Tmp} (q : Tmp) {assign body : Code} {Q : Exit → Act → World → Prop} {a : Act} {w : World} (V : World → Nat → Prop) (t : Tree) (n0 Bn : Nat) (A : Option Addr) (cap : Nat)
    (hg : a.eval g = .func (.func 82) #[] #[.pointer (some ⟨Bn, 0, none⟩)]) (hn : n0 ≤ Bn) (hBn : Bn < w.heap.size) (hc : w.cell? ⟨Bn, 3, none⟩ = some (.slice A t.kids.length cap))
    (hV : ∀ W k, Below w.heap.size w W → V W k → n0 ≤ k ∧ k ≠ Bn)
    (hv : SliceR treeE w (Lt n0) t.kids (.slice A t.kids.length cap)) (hcnt : countS t ≤ 400000)
    (hKb : ∀ (W : World) (l : Nat) (o o' : Obj), w.heap.size ≤ l → l < w.heap.size + 2 → W.heap[l]? = some o → o.isCells = false → But V W (W.putObj l o'))
    (I : List PosV → World → Prop) (Ix : Code → List PosV → World → Prop) (hI : OwnFrom w.heap.size I) (hGd : ∀ s A, I s A → w.heap.size + 2 ≤ A.heap.size → Gdv V A) (hIx : ∀ c, OwnFrom w.heap.size (Ix c)) (h0 : I [] w)
    (hassign : ∀ (l : Nat) (x : PosV) (W : World) (K : Act → World → Prop), K { tmps := (a.tmps.setIfInBounds p x.2).setIfInBounds q x.2, defers := [] } W →
      assign.wpIn (Fence.wide.inRound l) 0 Try.prog (Exit.then K (fun _ _ _ => False)) { tmps := a.tmps.setIfInBounds p x.2, defers := [] } W)
    (hbody : ∀ (l : Nat) (pre : List PosV) (x : PosV) (W : World), I pre W → PRdV V (w.heap.size + 2) x W → (pre ++ [x]).map Prod.fst <+: allS [] t → body.wpIn (Fence.wide.inRound l) 0 Try.prog (ownPostK (But V) I Ix (pre ++ [x]) W) { tmps := (a.tmps.setIfInBounds p x.2).setIfInBounds q x.2, defers := [] } W)
    (hdone : ∀ (D : Nat) (xs : List PosV) (W : World), w.heap.size ≤ D → xs.map Prod.fst = allS [] t → I xs W → W.heap[D]? = some (.deferred (some [])) → Q .normal { a with defers := { target := .collected D, args := #[] } :: a.defers } W)
    (hstop : ∀ (D : Nat) (c : Code) (pre : List PosV) (W : World), w.heap.size ≤ D → pre.map Prod.fst <+: allS [] t → Ix c pre W → W.heap[D]? = some (.deferred (some [])) → c.wpIn Fence.wide 0 Try.prog Q { a with defers := { target := .collected D, args := #[] } :: a.defers } W) :
    (Code.rangeFunc g #[p] assign body).wpIn Fence.wide 0 Try.prog Q a w :=
  wpIn_range_rd hg (enters_of Try.func82 (by kernel_rfl) rfl) (places1_seq V t n0 Bn A cap w hn hBn hc hV hv hcnt) (fun _ _ _ h k => h.trans k)
    hKb (fun x W l o o' h0 h1 h2 h3 h4 => prdV_own V _ x W l o o' (hKb W l o o' h0 h1 h2 h3) h2 h3 h4) I Ix hI hGd hIx h0 (fun x => { tmps := (a.tmps.setIfInBounds p x.2).setIfInBounds q x.2, defers := [] }) hassign hbody hdone hstop

/-- 'for p := range places(n) { .. }': the body writes boxes of the caller alone. -/
theorem wpIn_places {g : Operand} {p : Tmp} (q : Tmp) {assign body : Code} {Q : Exit → Act → World → Prop} {a : Act} {w : World} (t : Tree) (n0 n2 Bn : Nat) (A : Option Addr) (cap : Nat)
    (hg : a.eval g = .func (.func 82) #[] #[.pointer (some ⟨Bn, 0, none⟩)]) (hn : n0 ≤ n2) (hn2 : n2 ≤ Bn) (hBn : Bn < w.heap.size) (hc : w.cell? ⟨Bn, 3, none⟩ = some (.slice A t.kids.length cap))
    (hv : SliceR treeE w (Lt n0) t.kids (.slice A t.kids.length cap)) (hcnt : countS t ≤ 400000)
    (I : List PosV → World → Prop) (Ix : Code → List PosV → World → Prop) (hI : OwnFrom w.heap.size I) (hIx : ∀ c, OwnFrom w.heap.size (Ix c)) (h0 : I [] w)
    (hassign : ∀ (l : Nat) (x : PosV) (W : World) (K : Act → World → Prop), K { tmps := (a.tmps.setIfInBounds p x.2).setIfInBounds q x.2, defers := [] } W →
      assign.wpIn (Fence.wide.inRound l) 0 Try.prog (Exit.then K (fun _ _ _ => False)) { tmps := a.tmps.setIfInBounds p x.2, defers := [] } W)
    (hbody : ∀ (l : Nat) (pre : List PosV) (x : PosV) (W : World), I pre W → PRd (w.heap.size + 2) x W → (pre ++ [x]).map Prod.fst <+: allS [] t → body.wpIn (Fence.wide.inRound l) 0 Try.prog (ownPostK (But (fun _ => VP n0 n2 w.heap.size)) I Ix (pre ++ [x]) W) { tmps := (a.tmps.setIfInBounds p x.2).setIfInBounds q x.2, defers := [] } W)
    (hdone : ∀ (D : Nat) (xs : List PosV) (W : World), w.heap.size ≤ D → xs.map Prod.fst = allS [] t → I xs W → W.heap[D]? = some (.deferred (some [])) → Q .normal { a with defers := { target := .collected D, args := #[] } :: a.defers } W)
    (hstop : ∀ (D : Nat) (c : Code) (pre : List PosV) (W : World), w.heap.size ≤ D → pre.map Prod.fst <+: allS [] t → Ix c pre W → W.heap[D]? = some (.deferred (some [])) → c.wpIn Fence.wide 0 Try.prog Q { a with defers := { target := .collected D, args := #[] } :: a.defers } W) :
    (Code.rangeFunc g #[p] assign body).wpIn Fence.wide 0 Try.prog Q a w :=
  wpIn_placesV q (fun _ => VP n0 n2 w.heap.size) t n0 Bn A cap hg (by omega) hBn hc (fun W k _ h => by unfold VP at h; omega) hv hcnt (fun W l o o' h1 h2 _ _ => But.putObj W l o' (.inr ⟨h1, h2⟩)) I Ix hI
    (fun s A _ hs W' _ k hk => ⟨hk, by unfold VP at hk; omega⟩) hIx h0 hassign (fun l pre x W h1 h2 h3 => hbody l pre x W h1 (SliceR.wide h2 fun k hk => ⟨hk.1, hk.2.1⟩) h3) hdone hstop
end Go.Proofs.Ytognlokeadlpbaa
