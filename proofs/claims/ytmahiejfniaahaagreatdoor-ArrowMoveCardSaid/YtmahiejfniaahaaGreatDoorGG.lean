/- Texts put together: Deep1, Deep2, Deep3. -/
import Derived.Test.YtmahiejfniaahaaGreatDoorBasev
import Derived.Test.YtmahiejfniaahaaGreatDoorGR
import Derived.Laws.CopyOwn
import Derived.Test.YtmahiejfniaahaaGreatDoorGP
set_option linter.unusedVariables false
set_option linter.unusedSimpArgs false
namespace Go.Proofs.YtmahiejfniaahaaGreatDoor
open Go.RowKit
def NodeAtC (W : World) (g o : Nat) (t : Tree) (v : Value) : Prop :=
  W.cell? ⟨g, o, none⟩ = some (.int .i64 t.kind) ∧ W.cell? ⟨g, o + 1, none⟩ = some (.string t.text) ∧ W.cell? ⟨g, o + 2, none⟩ = some (.int .i64 t.cols) ∧ W.cell? ⟨g, o + 3, none⟩ = some v
def NodeOk (t : Tree) : Prop := In64 t.kind ∧ In64 t.cols ∧ t.text.size ≤ maxLen
abbrev PendT := Nat × Nat × Tree
def PendAt (w0 W : World) (S : Nat → Prop) (x : PendT) : Prop :=
  S x.1 ∧ (∃ a, x.2.1 = a * 4) ∧ NodeOk x.2.2 ∧ ∃ v, NodeAtC W x.1 x.2.1 x.2.2 v ∧ SliceR treeE w0 (Lt w0.heap.size) x.2.2.kids v
inductive Built (W : World) (S : Nat → Prop) (P : PendT → Prop) : Nat → Nat → Tree → Prop
  | pend (g o : Nat) (t : Tree) : P (g, o, t) → Built W S P g o t
  | done (g o : Nat) (t : Tree) (g' cap : Nat) (A : Option Addr) : S g → (∃ a, o = a * 4) → NodeOk t → NodeAtC W g o t (.slice A t.kids.length cap) → t.kids.length ≤ cap → cap ≤ maxLen →
      (0 < t.kids.length → A = some ⟨g', 0, none⟩ ∧ S g') → (∀ (i : Nat) (h : i < t.kids.length), Built W S P g' (i * 4) t.kids[i]) → Built W S P g o t
theorem NodeAtC.keep {W W' : World} {g o : Nat} {t : Tree} {v : Value} (h : NodeAtC W g o t v) (hk : ∀ j, j < 4 → W'.cell? ⟨g, o + j, none⟩ = W.cell? ⟨g, o + j, none⟩) : NodeAtC W' g o t v := by
  have e0 := hk 0 (by omega)
  simp only [Nat.add_zero] at e0
  exact ⟨e0.trans h.1, (hk 1 (by omega)).trans h.2.1, (hk 2 (by omega)).trans h.2.2.1, (hk 3 (by omega)).trans h.2.2.2⟩
theorem Built.step {w0 W W' : World} {S S' : Nat → Prop} {P P' : PendT → Prop} {g o g' cap' : Nat} {t : Tree} {A' : Option Addr} (hp : PendAt w0 W S (g, o, t)) (hP : ∀ x, P x → x = (g, o, t) ∨ P' x) (hS : ∀ k, S k → S' k) (h0 : ∀ k, S k → w0.heap.size ≤ k)
    (hk : ∀ q : Addr, S q.block → q ≠ ⟨g, o + 3, none⟩ → W'.cell? q = W.cell? q) (hc : W'.cell? ⟨g, o + 3, none⟩ = some (.slice A' t.kids.length cap')) (hcap : t.kids.length ≤ cap') (hmax : cap' ≤ maxLen) (hA : 0 < t.kids.length → A' = some ⟨g', 0, none⟩ ∧ S' g')
    (hkids : ∀ (i : Nat) (h : i < t.kids.length), P' (g', i * 4, t.kids[i])) {gr orr : Nat} {tr : Tree} (h : Built W S P gr orr tr) : Built W' S' P' gr orr tr := by
  obtain ⟨hg, ⟨a, ha⟩, hok, v, hn, hv⟩ := hp
  simp only at hg ha hok hn hv
  have hsame : ∀ g1 o1 b, S g1 → o1 = b * 4 → ¬ (g1 = g ∧ o1 = o) → ∀ j, j < 4 → W'.cell? ⟨g1, o1 + j, none⟩ = W.cell? ⟨g1, o1 + j, none⟩ := fun g1 o1 b hs hb hne j hj => hk ⟨g1, o1 + j, none⟩ hs (fun e => by
    injection e with e1 e2
    exact hne ⟨e1, by omega⟩)
  have hfirst : ∀ j, j < 3 → W'.cell? ⟨g, o + j, none⟩ = W.cell? ⟨g, o + j, none⟩ := fun j hj => hk ⟨g, o + j, none⟩ hg (fun e => by injection e with _ e2; omega)
  have hf0 := hfirst 0 (by omega)
  simp only [Nat.add_zero] at hf0
  have hn' : NodeAtC W' g o t (.slice A' t.kids.length cap') := ⟨hf0.trans hn.1, (hfirst 1 (by omega)).trans hn.2.1, (hfirst 2 (by omega)).trans hn.2.2.1, hc⟩
  induction h with
  | pend g1 o1 t1 h1 =>
    rcases hP _ h1 with e | h2
    · cases e
      exact .done _ _ _ g' cap' A' (hS _ hg) ⟨a, ha⟩ hok hn' hcap hmax hA (fun i hi => .pend _ _ _ (hkids i hi))
    · exact .pend _ _ _ h2
  | done g1 o1 t1 g2 cap1 A1 h1 h2 h3 h4 h5 h6 h7 h8 ih =>
    obtain ⟨b, hb⟩ := h2
    by_cases he : g1 = g ∧ o1 = o
    · obtain ⟨rfl, rfl⟩ := he
      have ev : v = .slice A1 t1.kids.length cap1 := by
        have := h4.2.2.2
        rw [hn.2.2.2] at this
        exact Option.some.inj this
      subst ev
      obtain ⟨A2, c2, cs, e2, hc1, hc2, hr, hl⟩ := hv
      injection e2 with e3 e4 e5
      have hz : t1.kids.length = 0 := by
        rcases Nat.eq_zero_or_pos t1.kids.length with hz | hz
        · exact hz
        · exfalso
          obtain ⟨hA1, hS1⟩ := h7 hz
          have hlen := hl.len
          obtain ⟨gg, oo, e6, hlt, _⟩ := hr (by rw [hlen, ← e4]; simp [treeE]; omega)
          rw [← e3, hA1] at e6
          cases e6
          have := h0 _ hS1
          have : g2 < w0.heap.size := hlt
          omega
      have k0 : W'.cell? ⟨g1, o1 + 3, none⟩ = some (.slice A' t1.kids.length cap') := by rw [e4]; exact hc
      refine .done _ _ _ g' cap' A' (hS _ hg) ⟨b, hb⟩ h3 ⟨hf0.trans h4.1, (hfirst 1 (by omega)).trans h4.2.1, (hfirst 2 (by omega)).trans h4.2.2.1, k0⟩ (by omega) hmax (fun h => by omega) (fun i hi => by omega)
    · exact .done _ _ _ g2 cap1 A1 (hS _ h1) ⟨b, hb⟩ h3 (h4.keep (hsame g1 o1 b h1 hb he)) h5 h6 (fun h => ⟨(h7 h).1, hS _ (h7 h).2⟩) ih
theorem Built.keep {W W' : World} {S S' : Nat → Prop} {P P' : PendT → Prop} (hS : ∀ k, S k → S' k) (hk : ∀ q : Addr, S q.block → W'.cell? q = W.cell? q) (hP : ∀ x, P x → P' x) {g o : Nat} {t : Tree} (h : Built W S P g o t) : Built W' S' P' g o t := by
  induction h with
  | pend g1 o1 t1 h1 => exact .pend _ _ _ (hP _ h1)
  | done g1 o1 t1 g2 cap1 A1 h1 h2 h3 h4 h5 h6 h7 h8 ih => exact .done _ _ _ g2 cap1 A1 (hS _ h1) h2 h3 (h4.keep fun j _ => hk ⟨g1, o1 + j, none⟩ h1) h5 h6 (fun h => ⟨(h7 h).1, hS _ (h7 h).2⟩) ih
theorem PendAt.keep {w0 W W' : World} {S S' : Nat → Prop} {x : PendT} (h : PendAt w0 W S x) (hS : ∀ k, S k → S' k) (hk : ∀ j, j < 4 → W'.cell? ⟨x.1, x.2.1 + j, none⟩ = W.cell? ⟨x.1, x.2.1 + j, none⟩) : PendAt w0 W' S' x := by
  obtain ⟨h1, h2, h3, v, h4, h5⟩ := h
  exact ⟨hS _ h1, h2, h3, v, h4.keep hk, h5⟩
theorem PendAt.other {w0 W W' : World} {S S' : Nat → Prop} {x : PendT} {g o : Nat} (h : PendAt w0 W S x) (ho : ∃ a, o = a * 4) (hne : ¬ (x.1 = g ∧ x.2.1 = o)) (hS : ∀ k, S k → S' k) (hk : ∀ q : Addr, S q.block → q ≠ ⟨g, o + 3, none⟩ → W'.cell? q = W.cell? q) : PendAt w0 W' S' x := by
  obtain ⟨b, hb⟩ := h.2.1
  obtain ⟨a, ha⟩ := ho
  refine h.keep hS fun j hj => hk ⟨x.1, x.2.1 + j, none⟩ h.1 (fun e => ?_)
  injection e with e1 e2
  exact hne ⟨e1, by omega⟩
theorem kids_row {W : World} {S : Nat → Prop} {g : Nat} (hS : S g) : ∀ (ts : List Tree) (off : Nat), (∀ (i : Nat) (h : i < ts.length), ∃ v, NodeAtC W g (off + i * 4) ts[i] v ∧ NodeOk ts[i] ∧ SliceR treeE W S ts[i].kids v) →
    ∃ cs, ListR treeE W S ts cs ∧ ∀ j u, cs[j]? = some u → W.cell? ⟨g, off + j, none⟩ = some u
  | [], off, _ => ⟨[], rfl, fun j u h => by simp at h⟩
  | t :: ts, off, h => by
    obtain ⟨v, hn, hok, hv⟩ := h 0 (by simp)
    simp only [Nat.zero_mul, Nat.add_zero, List.getElem_cons_zero] at hn hok hv
    obtain ⟨cs, hl, hc⟩ := kids_row hS ts (off + 4) (fun i hi => by
      obtain ⟨u, h1, h2, h3⟩ := h (i + 1) (by simpa using hi)
      rw [show off + (i + 1) * 4 = off + 4 + i * 4 by omega] at h1
      exact ⟨u, by simpa using h1, by simpa using h2, by simpa using h3⟩)
    refine ⟨[.int .i64 t.kind, .string t.text, .int .i64 t.cols, v] ++ cs, ⟨_, cs, rfl, treeR_mk.2 ⟨v, rfl, hok.1, hok.2.1, hok.2.2, hv⟩, hl⟩, fun j u hu => ?_⟩
    match j, hu with
    | 0, hu => cases hu; exact hn.1
    | 1, hu => cases hu; exact hn.2.1
    | 2, hu => cases hu; exact hn.2.2.1
    | 3, hu => cases hu; exact hn.2.2.2
    | j + 4, hu =>
      have := hc j u (by simpa using hu)
      rw [show off + (j + 4) = off + 4 + j by omega]; exact this
theorem Built.reads {W : World} {S : Nat → Prop} {P : PendT → Prop} (hP : ∀ x, ¬ P x) {g o : Nat} {t : Tree} (h : Built W S P g o t) : ∃ v, NodeAtC W g o t v ∧ NodeOk t ∧ SliceR treeE W S t.kids v := by
  induction h with
  | pend g1 o1 t1 h1 => exact absurd h1 (hP _)
  | done g1 o1 t1 g2 cap1 A1 h1 h2 h3 h4 h5 h6 h7 h8 ih =>
    refine ⟨_, h4, h3, ?_⟩
    rcases Nat.eq_zero_or_pos t1.kids.length with hz | hz
    · have e : t1.kids = [] := List.eq_nil_of_length_eq_zero hz
      exact ⟨A1, cap1, [], rfl, h5, h6, Reads.nil_, by rw [e]; rfl⟩
    · obtain ⟨rfl, hS2⟩ := h7 hz
      obtain ⟨cs, hl, hc⟩ := kids_row hS2 t1.kids 0 (fun i hi => by
        obtain ⟨v, a, b, c⟩ := ih i hi
        exact ⟨v, by rwa [Nat.zero_add], b, c⟩)
      exact ⟨_, cap1, cs, rfl, h5, h6, fun _ => ⟨g2, 0, rfl, hS2, hc⟩, hl⟩
end Go.Proofs.YtmahiejfniaahaaGreatDoor
set_option linter.unusedVariables false
set_option linter.unusedSimpArgs false
namespace Go.Proofs.YtmahiejfniaahaaGreatDoor
open Go.RowKit
theorem run_copy_all {P : Program} (w : World) (dT ty elem : TypeId) (sz g n : Nat) (a : Addr) (sCap : Nat) (cur : Array Value) (T : TypeId) (cs : List Value)
    (hu : P.underlying dT = some (.slice elem)) (hs : (P.info? elem).map (·.size) = some sz) (hg : w.heap[g]? = some (.cells cur T (0, 0))) (hn : cs.length = n * sz)
    (hsrc : ∀ j v, cs[j]? = some v → w.cell? (a.add j) = some v) (hcur : cur.size = cs.length) (h1 : ∀ v ∈ cs, v.oneCell' = true) :
    (Builtin.copy_ #[dT, dT] ty #[.slice (some ⟨g, 0, none⟩) n n, .slice (some a) n sCap]).run P w = .ok (goInt n) (w.setRow g cs.toArray) := by
  have hl := run_loadCells_list (P := P) w a cs hsrc
  have hst := run_storeCells_at P g 0 T cs 0 cur w hg (by omega) h1
  simp only [Nat.add_zero, Nat.zero_add, List.take_zero, List.nil_append] at hst
  have hd : cur.toList.drop cs.length = [] := List.drop_of_length_le (by simp [hcur])
  cases hq : P.info? elem with
  | none => simp [hq] at hs
  | some i =>
    have hi : i.size = sz := by simpa [hq] using hs
    simp [Builtin.copy_, run_underlying hu, Builtin.lenOf, Builtin.firstCells, sizeOf, typeInfo, hq, hi, ← hn, hl, hst, hd]
theorem wpList_copy_all {P : Program} {w : World} {ops : Array Oper} {rest : List Oper} {o : Oper} {a : Act} {Q : Exit → Act → World → Prop} (hgd : o.guard = none) (d s : Operand) (dT : TypeId)
    (ho : o.op = .call { callee := .builtin .copy, args := #[d, s], argTypes := #[dT, dT] }) (elem : TypeId) (sz : Nat) (hu : P.underlying dT = some (.slice elem)) (hs : (P.info? elem).map (·.size) = some sz)
    (g n : Nat) (ad : Addr) (sCap : Nat) (hd : a.eval d = .slice (some ⟨g, 0, none⟩) n n) (hsv : a.eval s = .slice (some ad) n sCap) (cur : Array Value) (T : TypeId) (cs : List Value) (hg : w.heap[g]? = some (.cells cur T (0, 0)))
    (hn : cs.length = n * sz) (hsrc : ∀ j v, cs[j]? = some v → w.cell? (ad.add j) = some v) (hcur : cur.size = cs.length) (h1 : ∀ v ∈ cs, v.oneCell' = true)
    (h : wpList P ops Q rest (a.put o.dst (goInt n)) (w.setRow g cs.toArray)) : wpList P ops Q (o :: rest) a w := by
  refine wpList_plain hgd fun K hK => ?_
  have hrun := run_copy_all (P := P) w dT o.type elem sz g n ad sCap cur T cs hu hs hg hn hsrc hcur h1
  unfold Oper.wp
  simp [execOp, ho, resolve, invoke, builtin, hd, hsv, hrun, Result.andThen]
  exact hK _ _ h
theorem wpList_copy_none {P : Program} {w : World} {ops : Array Oper} {rest : List Oper} {o : Oper} {a : Act} {Q : Exit → Act → World → Prop} (hgd : o.guard = none) (d s : Operand) (dT : TypeId)
    (ho : o.op = .call { callee := .builtin .copy, args := #[d, s], argTypes := #[dT, dT] }) (elem : TypeId) (sz : Nat) (hu : P.underlying dT = some (.slice elem)) (hs : (P.info? elem).map (·.size) = some sz)
    (A : Option Addr) (c c' : Nat) (hd : a.eval d = .slice none 0 c') (hsv : a.eval s = .slice A 0 c)
    (h : wpList P ops Q rest (a.put o.dst (goInt 0)) w) : wpList P ops Q (o :: rest) a w := by
  refine wpList_plain hgd fun K hK => ?_
  have hrun : (Builtin.copy_ #[dT, dT] o.type #[.slice none 0 c', .slice A 0 c]).run P w = .ok (goInt 0) w := by
    cases hq : P.info? elem with
    | none => simp [hq] at hs
    | some i =>
      have hl : ∀ ad : Addr, (loadCells ad 0).run P w = .ok #[] w := fun ad => by simpa using run_loadCells_list (P := P) w ad [] (fun j v h => by simp at h)
      cases A <;> simp [Builtin.copy_, run_underlying hu, Builtin.lenOf, Builtin.firstCells, sizeOf, typeInfo, hq, hl]
  unfold Oper.wp
  simp [execOp, ho, resolve, invoke, builtin, hd, hsv, hrun, Result.andThen]
  exact hK _ _ h
/-! ### the stack -/
def ptrV (x : PendT) : Value := .pointer (some ⟨x.1, x.2.1, none⟩)
def StackR (w : World) (B : Nat) (e : TypeId) (v : Value) (P : List PendT) : Prop := w.ownsRow B e 1 v P.length (P.map ptrV)
theorem StackR.top {w : World} {B : Nat} {e : TypeId} {v : Value} {P : List PendT} {x : PendT} (h : StackR w B e v (P ++ [x])) : ∃ g cap, v = .slice (some ⟨g, 0, none⟩) (P.length + 1) cap ∧ B ≤ g ∧ g < w.heap.size ∧ P.length + 1 ≤ cap ∧ cap ≤ maxLen ∧ w.cell? ⟨g, P.length, none⟩ = some (ptrV x) ∧ StackR w B e (.slice (some ⟨g, 0, none⟩) P.length cap) P := by
  obtain ⟨hl, h2⟩ := h
  rcases h2 with ⟨_, h0⟩ | ⟨g, cap, cur, rfl, hg, hh, h3, h4, h5, h6⟩
  · simp at h0
  · simp only [List.length_append, List.length_cons, List.length_nil, Nat.mul_one, List.map_append, List.map_cons, List.map_nil] at h3 h6 ⊢
    have h7 : cur.toList.take P.length = P.map ptrV := by
      have := congrArg (List.take P.length) h6
      rw [List.take_take, Nat.min_eq_left (by omega), List.take_append_of_le_length (by simp)] at this
      rw [this]
      exact List.take_of_length_le (by simp)
    have h8 : cur.toList[P.length]? = some (ptrV x) := by
      have := congrArg (·[P.length]?) h6
      simp only [List.getElem?_take] at this
      rw [if_pos (by omega)] at this
      rw [this, List.getElem?_append_right (by simp)]
      simp
    refine ⟨g, cap, rfl, hg, (Array.getElem?_eq_some_iff.1 hh).1, by omega, h4, ?_, by simp, .inr ⟨g, cap, cur, rfl, hg, hh, by omega, h4, h5, by simpa using h7⟩⟩
    rw [cell_of_row w g P.length cur e (0, 0) hh]
    simpa using h8
end Go.Proofs.YtmahiejfniaahaaGreatDoor
set_option linter.unusedVariables false
set_option linter.unusedSimpArgs false
namespace Go.Proofs.YtmahiejfniaahaaGreatDoor
open Go.RowKit
def Sv (h : Nat) (lv : Value) (wr : World) (k : Nat) : Prop := h ≤ k ∧ k < wr.heap.size ∧ k ≠ h + 1 ∧ some k ≠ lv.ownBlock
def addrs (P : List PendT) : List (Nat × Nat) := P.map fun x => (x.1, x.2.1)
def pcnt : List PendT → Nat
  | [] => 0
  | x :: P => countS x.2.2 + pcnt P
theorem pcnt_append (P Q : List PendT) : pcnt (P ++ Q) = pcnt P + pcnt Q := by
  induction P with
  | nil => simp [pcnt]
  | cons x P ih => simp only [List.cons_append, pcnt, ih]; omega
def kidsF (g : Nat) : Nat → List Tree → List PendT
  | _, [] => []
  | i, t :: ts => (g, i * 4, t) :: kidsF g (i + 1) ts
def kidsP (g : Nat) (ts : List Tree) : List PendT := kidsF g 0 ts
theorem kidsF_len (g : Nat) : ∀ (ts : List Tree) (i : Nat), (kidsF g i ts).length = ts.length
  | [], i => rfl
  | t :: ts, i => by simp [kidsF, kidsF_len g ts (i + 1)]
theorem kidsF_get (g : Nat) : ∀ (ts : List Tree) (i j : Nat) (h : j < ts.length), (kidsF g i ts)[j]? = some (g, (i + j) * 4, ts[j])
  | t :: ts, i, 0, h => by simp [kidsF]
  | t :: ts, i, j + 1, h => by
    simp only [kidsF, List.getElem?_cons_succ, List.getElem_cons_succ]
    rw [kidsF_get g ts (i + 1) j (by simpa using h), show i + 1 + j = i + (j + 1) by omega]
theorem kidsF_cnt (g : Nat) : ∀ (ts : List Tree) (i : Nat), pcnt (kidsF g i ts) = countsS ts
  | [], i => rfl
  | t :: ts, i => by simp only [kidsF, pcnt, countsS, kidsF_cnt g ts (i + 1)]
structure DI (w wr : World) (e en : TypeId) (lv : Value) (t : Tree) (SL PL : List PendT) : Prop where
  stack : StackR wr (w.heap.size + 2) e lv SL
  pend : ∀ x ∈ PL, PendAt w wr (Sv w.heap.size lv wr) x
  nodup : (addrs PL).Nodup
  built : Built wr (Sv w.heap.size lv wr) (· ∈ PL) w.heap.size 0 t
  below : Below w.heap.size w wr
  box : w.heap.size + 2 ≤ wr.heap.size
  frz : ∀ x ∈ PL, wr.frozen? ⟨x.1, x.2.1 + 3, none⟩ = false
  res : wr.heap[w.heap.size + 1]? = some (.cells #[.int .i64 0, .string ⟨#[]⟩, .int .i64 0, .slice none 0 0] en (0, 0))
theorem DI.push {w wr w' : World} {e en : TypeId} {lv v' : Value} {t : Tree} {SL SL' PL : List PendT} (hd : DI w wr e en lv t SL PL) (hs : StackR w' (w.heap.size + 2) e v' SL') (hg : wr.grownBy w' lv.ownBlock) (hv : ∀ k, v'.ownBlock = some k → lv.ownBlock = some k ∨ wr.heap.size ≤ k)
    : DI w w' e en v' t SL' PL := by
  have hS : ∀ k, Sv w.heap.size lv wr k → Sv w.heap.size v' w' k := fun k hk => ⟨hk.1, Nat.lt_of_lt_of_le hk.2.1 hg.size, hk.2.2.1, fun e => by
    rcases hv k e.symm with h | h
    · exact hk.2.2.2 h.symm
    · have := hk.2.1; omega⟩
  have hc : ∀ q : Addr, Sv w.heap.size lv wr q.block → w'.cell? q = wr.cell? q := fun q hq => World.cell?_of_block (hg.block q.block hq.2.1 hq.2.2.2)
  have hb : ∀ k, lv.ownBlock = some k → w.heap.size ≤ k := fun k hk => by have := (hd.stack.lt k hk).1; omega
  refine ⟨hs, fun x hx => (hd.pend x hx).keep hS (fun j _ => hc ⟨x.1, x.2.1 + j, none⟩ (hd.pend x hx).1), hd.nodup, hd.built.keep hS hc (fun _ h => h), hd.below.grown hg (by have := hd.box; omega) (fun k e => hb k e), Nat.le_trans hd.box hg.size, fun x hx => (World.frozen?_of_block (hg.block x.1 (hd.pend x hx).1.2.1 (hd.pend x hx).1.2.2.2)).trans (hd.frz x hx), (hg.block _ (by have := hd.box; omega) (fun e => by have := (hd.stack.lt _ e.symm).1; omega)).trans hd.res⟩
theorem DI.result {w wr : World} {e en : TypeId} {lv : Value} {t : Tree} {SL : List PendT} (hd : DI w wr e en lv t SL []) : ∃ v, NodeAtC wr w.heap.size 0 t v ∧ SliceR treeE wr (Sv w.heap.size lv wr) t.kids v := by
  obtain ⟨v, h1, _, h3⟩ := hd.built.reads (fun x h => by cases h)
  exact ⟨v, h1, h3⟩
theorem kidsP_mem {g : Nat} {ts : List Tree} {x : PendT} : x ∈ kidsP g ts ↔ ∃ (i : Nat) (h : i < ts.length), x = (g, i * 4, ts[i]) := by
  constructor
  · intro hx
    obtain ⟨i, hi, h⟩ := List.mem_iff_getElem.1 hx
    have hi' : i < ts.length := by rw [← kidsF_len g ts 0]; exact hi
    have := kidsF_get g ts 0 i hi'
    rw [Nat.zero_add] at this
    refine ⟨i, hi', ?_⟩
    have h2 : (kidsP g ts)[i]? = some x := by rw [List.getElem?_eq_getElem hi, h]
    rw [kidsP, this] at h2
    exact (Option.some.inj h2).symm
  · rintro ⟨i, hi, rfl⟩
    have := kidsF_get g ts 0 i hi
    rw [Nat.zero_add] at this
    exact List.mem_of_getElem? this
theorem kidsF_lo (g : Nat) : ∀ (ts : List Tree) (i : Nat), ∀ a ∈ addrs (kidsF g i ts), i * 4 ≤ a.2
  | [], i, a, h => by simp [kidsF, addrs] at h
  | t :: ts, i, a, h => by
    simp only [kidsF, addrs, List.map_cons, List.mem_cons] at h
    rcases h with rfl | h
    · simp
    · have := kidsF_lo g ts (i + 1) a h
      omega
theorem kidsF_nodup (g : Nat) : ∀ (ts : List Tree) (i : Nat), (addrs (kidsF g i ts)).Nodup
  | [], i => by simp [kidsF, addrs]
  | t :: ts, i => by
    simp only [kidsF, addrs, List.map_cons, List.nodup_cons]
    refine ⟨fun h => ?_, kidsF_nodup g ts (i + 1)⟩
    have := kidsF_lo g ts (i + 1) _ h
    simp only at this
    omega
theorem kidsP_addrs {g : Nat} {ts : List Tree} : (addrs (kidsP g ts)).Nodup := kidsF_nodup g ts 0
theorem DI.node {w wr W4 : World} {e en : TypeId} {lv lv' : Value} {t : Tree} {Q : List PendT} {x : PendT} {g' cap' : Nat} {A' : Option Addr} (hd : DI w wr e en lv t (Q ++ [x]) (Q ++ [x]))
    (hk : ∀ q : Addr, q.block < wr.heap.size → q ≠ ⟨x.1, x.2.1 + 3, none⟩ → W4.cell? q = wr.cell? q) (hs : StackR W4 (w.heap.size + 2) e lv' Q) (hown : lv'.ownBlock = lv.ownBlock) (hb : Below w.heap.size w W4) (hsz : wr.heap.size ≤ W4.heap.size)
    (hf : ∀ q : Addr, q.block < wr.heap.size → W4.frozen? q = wr.frozen? q) (hfn : 0 < x.2.2.kids.length → ∀ o, W4.frozen? ⟨g', o, none⟩ = false) (hres : W4.heap[w.heap.size + 1]? = wr.heap[w.heap.size + 1]?) (hc : W4.cell? ⟨x.1, x.2.1 + 3, none⟩ = some (.slice A' x.2.2.kids.length cap')) (hcap : x.2.2.kids.length ≤ cap') (hmax : cap' ≤ maxLen)
    (hg : wr.heap.size ≤ g') (hA : 0 < x.2.2.kids.length → A' = some ⟨g', 0, none⟩ ∧ g' < W4.heap.size)
    (hcells : ∀ (i : Nat) (hi : i < x.2.2.kids.length), NodeOk x.2.2.kids[i] ∧ ∃ v, NodeAtC W4 g' (i * 4) x.2.2.kids[i] v ∧ SliceR treeE w (Lt w.heap.size) x.2.2.kids[i].kids v) :
    DI w W4 e en lv' t Q (Q ++ kidsP g' x.2.2.kids) := by
  have hS : ∀ k, Sv w.heap.size lv wr k → Sv w.heap.size lv' W4 k := fun k hk => ⟨hk.1, Nat.lt_of_lt_of_le hk.2.1 hsz, hk.2.2.1, by rw [hown]; exact hk.2.2.2⟩
  have hbx := hd.box
  have hlt : ∀ k, lv.ownBlock = some k → k < wr.heap.size := fun k hk => (hd.stack.lt k hk).2
  have hSg : 0 < x.2.2.kids.length → Sv w.heap.size lv' W4 g' := fun h => ⟨by omega, (hA h).2, by omega, by rw [hown]; intro e; have := hlt _ e.symm; omega⟩
  have hkS : ∀ q : Addr, Sv w.heap.size lv wr q.block → q ≠ ⟨x.1, x.2.1 + 3, none⟩ → W4.cell? q = wr.cell? q := fun q hq hne => hk q hq.2.1 hne
  have hx := hd.pend x (by simp)
  have hnd := hd.nodup
  unfold addrs at hnd
  rw [List.map_append, List.nodup_append] at hnd
  refine ⟨hs, ?_, ?_, ?_, hb, Nat.le_trans hbx hsz, ?_, hres.trans hd.res⟩
  · intro y hy
    rcases List.mem_append.1 hy with hy | hy
    · refine (hd.pend y (by simp [hy])).other hx.2.1 (fun e => ?_) hS hkS
      exact hnd.2.2 _ (List.mem_map_of_mem hy) _ (List.mem_map_of_mem (List.mem_singleton_self x)) (by rw [Prod.mk.injEq]; exact e)
    · obtain ⟨i, hi, rfl⟩ := kidsP_mem.1 hy
      obtain ⟨h1, v, h2, h3⟩ := hcells i hi
      exact ⟨hSg (by omega), ⟨i, rfl⟩, h1, v, h2, h3⟩
  · unfold addrs
    rw [List.map_append, List.nodup_append]
    refine ⟨hnd.1, kidsP_addrs, ?_⟩
    intro a ha b hb' e
    subst e
    obtain ⟨y, hy, rfl⟩ := List.mem_map.1 ha
    obtain ⟨z, hz, hz2⟩ := List.mem_map.1 hb'
    obtain ⟨i, hi, rfl⟩ := kidsP_mem.1 hz
    have h1 := (hd.pend y (by simp [hy])).1.2.1
    have h2 : g' = y.1 := congrArg Prod.fst hz2
    omega
  · refine Built.step (g' := g') hx (fun y hy => ?_) hS (fun k hk => hk.1) hkS hc hcap hmax (fun h => ⟨(hA h).1, hSg h⟩) (fun i hi => List.mem_append_right _ (kidsP_mem.2 ⟨i, hi, rfl⟩)) hd.built
    rcases List.mem_append.1 hy with hy | hy
    · exact .inr (List.mem_append_left _ hy)
    · exact .inl (List.mem_singleton.1 hy)
  · intro y hy
    rcases List.mem_append.1 hy with hy | hy
    · exact (hf _ (hd.pend y (by simp [hy])).1.2.1).trans (hd.frz y (by simp [hy]))
    · obtain ⟨i, hi, rfl⟩ := kidsP_mem.1 hy
      exact hfn (by omega) _
end Go.Proofs.YtmahiejfniaahaaGreatDoor
