/- Texts put together: Box, Bytes, BoxV, Cells, BxS, BxO, BxW. -/
import Derived.Test.YtmahiejfniaahaaGreatDoorBasev
import Derived.Deep.QuietTactic
import Derived.BigQuiet
import Derived.Test.YtmahiejfniaahaaGreatDoorGR
import Derived.IntWalk
import Derived.Deep.DeepCutAuto
set_option linter.unusedVariables false
set_option linter.unusedSimpArgs false
namespace Go.Proofs.YtmahiejfniaahaaGreatDoor
open Go.RowKit
structure BxF where
  kind : Int
  name : ByteArray
  size : Int
  w : Int
  h : Int
  d : Int
  x : Int
  y : Int
  of_ : Int
  src : List Int
structure BxF.Ok (f : BxF) : Prop where
  kind : In64 f.kind
  name : f.name.size ≤ maxLen
  size : In64 f.size
  w : In64 f.w
  h : In64 f.h
  d : In64 f.d
  x : In64 f.x
  y : In64 f.y
  of_ : In64 f.of_
inductive Bx where
  | mk (f : BxF) (kids : List Bx)
namespace Bx
def f : Bx → BxF | mk f _ => f
def kids : Bx → List Bx | mk _ ks => ks
end Bx
def boxL (f : BxF) (vk vs : Value) : List Value := [.int .i64 f.kind, .string f.name, .int .i64 f.size, .int .i64 f.w, .int .i64 f.h, .int .i64 f.d, .int .i64 f.x, .int .i64 f.y, vk, .int .i64 f.of_, vs]
abbrev boxC (f : BxF) (vk vs : Value) : Array Value := #[.int .i64 f.kind, .string f.name, .int .i64 f.size, .int .i64 f.w, .int .i64 f.h, .int .i64 f.d, .int .i64 f.x, .int .i64 f.y, vk, .int .i64 f.of_, vs]
mutual
def BoxR (w : World) (S : Nat → Prop) : Bx → List Value → Prop
  | .mk f ks, cs => ∃ A cap rs vs, cs = boxL f (.slice A ks.length cap) vs ∧ f.Ok ∧ IntsR w S f.src vs ∧ ks.length ≤ cap ∧ cap ≤ maxLen ∧ Reads w S A rs ∧ BoxesR w S ks rs
def BoxesR (w : World) (S : Nat → Prop) : List Bx → List Value → Prop
  | [], cs => cs = []
  | t :: ts, cs => ∃ h r, cs = h ++ r ∧ BoxR w S t h ∧ BoxesR w S ts r
end
theorem BoxR.len {w : World} {S : Nat → Prop} {t : Bx} {cs : List Value} (h : BoxR w S t cs) : cs.length = 11 := by
  cases t; unfold BoxR at h; obtain ⟨A, cap, rs, vs, rfl, _⟩ := h; rfl
theorem BoxR.one {w : World} {S : Nat → Prop} {t : Bx} {cs : List Value} (h : BoxR w S t cs) : ∀ u ∈ cs, u.oneCell' = true := by
  cases t; unfold BoxR at h; obtain ⟨A, cap, rs, vs, rfl, _, ⟨_, _, _, rfl, _⟩, _⟩ := h; simp [boxL, Value.oneCell']
mutual
theorem BoxR.keep {w w' : World} {S S' : Nat → Prop} (hk : Same S w w') (hB : ∀ k, S k → S' k) : (t : Bx) → (cs : List Value) → BoxR w S t cs → BoxR w' S' t cs
  | .mk f ts, cs, h => by
    unfold BoxR at h ⊢
    obtain ⟨A, cap, rs, vs, h1, h2, h3, h4, h5, h6, h7⟩ := h
    exact ⟨A, cap, rs, vs, h1, h2, h3.keep hk hB, h4, h5, h6.keep hk hB, BoxesR.keep hk hB ts rs h7⟩
theorem BoxesR.keep {w w' : World} {S S' : Nat → Prop} (hk : Same S w w') (hB : ∀ k, S k → S' k) : (ts : List Bx) → (cs : List Value) → BoxesR w S ts cs → BoxesR w' S' ts cs
  | [], cs, h => by unfold BoxesR at h ⊢; exact h
  | t :: ts, cs, h => by
    unfold BoxesR at h ⊢
    obtain ⟨a, r, h1, h2, h3⟩ := h
    exact ⟨a, r, h1, BoxR.keep hk hB t a h2, BoxesR.keep hk hB ts r h3⟩
end
def boxE : Enc Bx where
  size := 11
  R := BoxR
  pos := by omega
  len := BoxR.len
  one := BoxR.one
  keep := fun h hk hB => BoxR.keep hk hB _ _ h
theorem boxesR_iff {w : World} {S : Nat → Prop} {ts : List Bx} {cs : List Value} : BoxesR w S ts cs ↔ ListR boxE w S ts cs := by
  induction ts generalizing cs with
  | nil => simp [ListR, BoxesR]
  | cons t ts ih =>
    unfold BoxesR ListR
    simp only [ih]; rfl
theorem boxR_mk {w : World} {S : Nat → Prop} {t : Bx} {cs : List Value} : BoxR w S t cs ↔ ∃ vk vs, cs = boxL t.f vk vs ∧ t.f.Ok ∧ IntsR w S t.f.src vs ∧ SliceR boxE w S t.kids vk := by
  obtain ⟨f, ts⟩ := t
  unfold BoxR
  simp only [Bx.f, Bx.kids]
  constructor
  · rintro ⟨A, cap, rs, vs, rfl, h1, h2, h4, h5, h6, h7⟩
    exact ⟨_, _, rfl, h1, h2, A, cap, rs, rfl, h4, h5, h6, boxesR_iff.1 h7⟩
  · rintro ⟨vk, vs, rfl, h1, h2, A, cap, rs, rfl, h4, h5, h6, h7⟩
    exact ⟨A, cap, rs, vs, rfl, h1, h2, h4, h5, h6, boxesR_iff.2 h7⟩
abbrev BoxesS (w : World) (S : Nat → Prop) (ts : List Bx) (v : Value) : Prop := SliceR boxE w S ts v
structure Box11 (W : World) (b o : Nat) (f : BxF) (vk vs : Value) : Prop where
  c0 : W.cell? ⟨b, o, none⟩ = some (.int .i64 f.kind)
  c1 : W.cell? ⟨b, o + 1, none⟩ = some (.string f.name)
  c2 : W.cell? ⟨b, o + 2, none⟩ = some (.int .i64 f.size)
  c3 : W.cell? ⟨b, o + 3, none⟩ = some (.int .i64 f.w)
  c4 : W.cell? ⟨b, o + 4, none⟩ = some (.int .i64 f.h)
  c5 : W.cell? ⟨b, o + 5, none⟩ = some (.int .i64 f.d)
  c6 : W.cell? ⟨b, o + 6, none⟩ = some (.int .i64 f.x)
  c7 : W.cell? ⟨b, o + 7, none⟩ = some (.int .i64 f.y)
  c8 : W.cell? ⟨b, o + 8, none⟩ = some vk
  c9 : W.cell? ⟨b, o + 9, none⟩ = some (.int .i64 f.of_)
  c10 : W.cell? ⟨b, o + 10, none⟩ = some vs
theorem Box11.keep {W W' : World} {b o : Nat} {f : BxF} {vk vs : Value} (h : Box11 W b o f vk vs) (hk : ∀ j, W'.cell? ⟨b, j, none⟩ = W.cell? ⟨b, j, none⟩) : Box11 W' b o f vk vs :=
  ⟨(hk _).trans h.c0, (hk _).trans h.c1, (hk _).trans h.c2, (hk _).trans h.c3, (hk _).trans h.c4, (hk _).trans h.c5, (hk _).trans h.c6, (hk _).trans h.c7, (hk _).trans h.c8, (hk _).trans h.c9, (hk _).trans h.c10⟩
theorem Box11.below {W W' : World} {B b o : Nat} {f : BxF} {vk vs : Value} (h : Box11 W b o f vk vs) (hb : Below B W W') (hB : b < B) : Box11 W' b o f vk vs := h.keep fun j => hb.cell (p := ⟨b, j, none⟩) hB
theorem Box11.new (w : World) (f : BxF) (vk vs : Value) (T : TypeId) : Box11 (w.alloc (Obj.cells (boxC f vk vs) T)) w.heap.size 0 f vk vs := by
  constructor <;> rw [World.cell?_alloc_new] <;> rfl
theorem boxes_at {w : World} {S : Nat → Prop} {ts : List Bx} {A : Option Addr} {cs : List Value} (h3 : Reads w S A cs) (h4 : ListR boxE w S ts cs) {k : Nat} (hk : k < ts.length) :
    ∃ g o A' cap' vs, A = some ⟨g, o, none⟩ ∧ S g ∧ Box11 w g (o + k * 11) ts[k].f (.slice A' ts[k].kids.length cap') vs ∧ ts[k].f.Ok ∧ IntsR w S ts[k].f.src vs ∧ BoxesS w S ts[k].kids (.slice A' ts[k].kids.length cap') := by
  obtain ⟨g, o, c, e, hb, hR, hc⟩ := slice_at h3 h4 hk
  obtain ⟨vk, vs, rfl, h1, h2, h3⟩ := boxR_mk.1 hR
  obtain ⟨A', cap', rfl⟩ := h3.form
  have hE : boxE.size = 11 := rfl
  rw [hE] at hc
  exact ⟨g, o, A', cap', vs, e, hb, ⟨hc 0 _ rfl, hc 1 _ rfl, hc 2 _ rfl, hc 3 _ rfl, hc 4 _ rfl, hc 5 _ rfl, hc 6 _ rfl, hc 7 _ rfl, hc 8 _ rfl, hc 9 _ rfl, hc 10 _ rfl⟩, h1, h2, h3⟩
/-! ### plain: what the reference says of a box -/
mutual
def cntB : Bx → Nat
  | .mk _ ks => 1 + cntsB ks
def cntsB : List Bx → Nat
  | [] => 0
  | k :: ks => cntB k + cntsB ks
end
mutual
def nestB : Bx → Nat
  | .mk _ ks => nestsB ks + 1
def nestsB : List Bx → Nat
  | [] => 0
  | k :: ks => max (nestB k) (nestsB ks)
end
theorem cntB_pos (b : Bx) : 0 < cntB b := by cases b; rw [cntB]; omega
theorem cntsB_len (ks : List Bx) : ks.length ≤ cntsB ks := by
  induction ks with
  | nil => simp
  | cons k ks ih => rw [cntsB, List.length_cons]; have := cntB_pos k; omega
def lenOk (n : Int) : Bool := decide (-1073741824 ≤ n ∧ n ≤ 1073741824)
def srcOk (f : BxF) : Bool :=
  f.src.all (fun i => decide (0 ≤ i)) && (if f.of_ = 0 then decide (f.src.length = 0) else if f.of_ = 1 then decide (f.src.length % 2 = 0 ∧ f.src.length ≤ 48) else if f.of_ = 2 then decide (f.src.length % 2 = 1 ∧ f.src.length ≤ 49) else false)
end Go.Proofs.YtmahiejfniaahaaGreatDoor
set_option linter.unusedVariables false
set_option linter.unusedSimpArgs false
namespace Go.Proofs.YtmahiejfniaahaaGreatDoor
open Go.RowKit
def bytes (s : ByteArray) : List Int := s.data.toList.map fun b => (b.toNat : Int)
theorem bytes_len (s : ByteArray) : (bytes s).length = s.size := by simp only [bytes, List.length_map, Array.length_toList]; rfl
theorem bytes_get (s : ByteArray) (k : Nat) (h : k < s.size) : (bytes s)[k]'(by rw [bytes_len]; exact h) = (s[k].toNat : Int) := by simp only [bytes, List.getElem_map]; rfl
theorem bytes_drop (s : ByteArray) (k : Nat) (h : k < s.size) : (bytes s).drop k = (s[k].toNat : Int) :: (bytes s).drop (k + 1) := by
  rw [List.drop_eq_getElem_cons (by rw [bytes_len]; exact h), bytes_get s k h]
theorem bytes_drop_end (s : ByteArray) (k : Nat) (h : ¬ k < s.size) : (bytes s).drop k = [] := List.drop_of_length_le (by rw [bytes_len]; omega)
def printableS (l : List Int) : Bool := l.all fun c => decide (32 ≤ c ∧ c ≤ 126)
end Go.Proofs.YtmahiejfniaahaaGreatDoor
set_option linter.unusedVariables false
set_option linter.unusedSimpArgs false
namespace Go.Proofs.YtmahiejfniaahaaGreatDoor
open Go.RowKit
def nameOk (s : ByteArray) : Bool := decide (1 ≤ s.size ∧ s.size ≤ 16) && printableS (bytes s)
def lensOk (f : BxF) : Bool := [f.w, f.h, f.d, f.x, f.y].all lenOk
def ownB (f : BxF) (n : Nat) : Bool :=
  lensOk f && (if f.kind = 1 then nameOk f.name && (decide (1 ≤ f.size ∧ f.size ≤ 1000) && (decide (n = 0) && srcOk f))
    else if f.kind = 2 then f.name.toList.isEmpty && (decide (f.size = 0) && (decide (n = 0) && srcOk f))
    else if f.kind = 3 then f.name.toList.isEmpty && (decide (f.size = 0) && srcOk f) else false)
mutual
def properB : Bx → Bool
  | .mk f ks => ownB f ks.length && propersB ks
def propersB : List Bx → Bool
  | [] => true
  | k :: ks => properB k && propersB ks
end
def validB (b : Bx) : Bool := properB b && decide (cntB b ≤ 20000) && decide (nestB b ≤ 100)
mutual
def goB : Bx → Int → Int → Bool × Int
  | .mk f ks, d, c => if c + 1 > 20000 ∨ d > 100 ∨ ownB f ks.length = false then (false, c + 1) else goBs ks (d + 1) (c + 1)
def goBs : List Bx → Int → Int → Bool × Int
  | [], _, c => (true, c)
  | k :: ks, d, c => if (goB k d c).1 = true then goBs ks d (goB k d c).2 else (false, (goB k d c).2)
end
mutual
theorem goB_iff : (b : Bx) → (d c : Int) → ((goB b d c).1 = true ↔ properB b = true ∧ c + cntB b ≤ 20000 ∧ d + nestB b - 1 ≤ 100) ∧ ((goB b d c).1 = true → (goB b d c).2 = c + cntB b) ∧ c < (goB b d c).2 ∧ (goB b d c).2 ≤ c + cntB b
  | .mk f ks, d, c => by
    rw [goB, properB, cntB, nestB]
    by_cases h : c + 1 > 20000 ∨ d > 100 ∨ ownB f ks.length = false
    · rw [if_pos h]
      refine ⟨⟨fun h => by simp at h, fun ⟨h1, h2, h3⟩ => ?_⟩, fun h => by simp at h, by simp only; omega, by simp only; omega⟩
      rw [Bool.and_eq_true] at h1
      rcases h with h | h | h
      · omega
      · omega
      · rw [h] at h1; simp at h1
    · rw [if_neg h]
      obtain ⟨h1, h2, h3, h4⟩ := goBs_iff ks (d + 1) (c + 1) (by omega) (by omega)
      have ho : ownB f ks.length = true := by cases hb : ownB f ks.length <;> simp_all
      refine ⟨?_, fun h => by rw [h2 h]; omega, by omega, by omega⟩
      rw [h1, ho, Bool.true_and]
      constructor
      · rintro ⟨a1, a2, a3⟩; exact ⟨a1, by omega, by omega⟩
      · rintro ⟨a1, a2, a3⟩; exact ⟨a1, by omega, by omega⟩
theorem goBs_iff : (ks : List Bx) → (d c : Int) → c ≤ 20000 → d - 1 ≤ 100 → ((goBs ks d c).1 = true ↔ propersB ks = true ∧ c + cntsB ks ≤ 20000 ∧ d + nestsB ks - 1 ≤ 100) ∧ ((goBs ks d c).1 = true → (goBs ks d c).2 = c + cntsB ks) ∧ c ≤ (goBs ks d c).2 ∧ (goBs ks d c).2 ≤ c + cntsB ks
  | [], d, c, hc, hd => by
    rw [goBs, propersB, cntsB, nestsB]
    exact ⟨⟨fun _ => ⟨rfl, by omega, by omega⟩, fun _ => rfl⟩, fun _ => by simp only; omega, by simp only; omega, by simp only; omega⟩
  | k :: ks, d, c, hc, hd => by
    rw [goBs, propersB, cntsB, nestsB]
    obtain ⟨h1, h2, h3, h4⟩ := goB_iff k d c
    by_cases h : (goB k d c).1 = true
    · rw [if_pos h]
      have e := h2 h
      have ⟨p1, p2, p3⟩ := h1.1 h
      obtain ⟨k1, k2, k3, k4⟩ := goBs_iff ks d (goB k d c).2 (by omega) hd
      refine ⟨?_, fun h => by rw [k2 h]; omega, by omega, by omega⟩
      rw [k1, p1, Bool.true_and]
      constructor
      · rintro ⟨a1, a2, a3⟩; exact ⟨a1, by omega, by omega⟩
      · rintro ⟨a1, a2, a3⟩; exact ⟨a1, by omega, by omega⟩
    · rw [if_neg h]
      refine ⟨⟨fun h => by simp at h, fun ⟨a1, a2, a3⟩ => ?_⟩, fun h => by simp at h, by simp only; omega, by simp only; omega⟩
      rw [Bool.and_eq_true] at a1
      exact absurd (h1.2 ⟨a1.1, by omega, by omega⟩) h
end
theorem goB_valid (b : Bx) : (goB b 1 0).1 = validB b := by
  have h := (goB_iff b 1 0).1
  rw [Bool.eq_iff_iff, h]
  unfold validB
  simp only [Bool.and_eq_true, decide_eq_true_eq]
  constructor
  · rintro ⟨a1, a2, a3⟩; exact ⟨⟨a1, by omega⟩, by omega⟩
  · rintro ⟨⟨a1, a2⟩, a3⟩; exact ⟨a1, by omega, by omega⟩
end Go.Proofs.YtmahiejfniaahaaGreatDoor
set_option linter.unusedVariables false
set_option linter.unusedSimpArgs false
namespace Go.Proofs.YtmahiejfniaahaaGreatDoor
open Go.RowKit
def setCells (w : World) (b o : Nat) : List Value → World
  | [] => w
  | v :: vs => setCells (w.setCell ⟨b, o, none⟩ v) b (o + 1) vs
def BoxL (w : World) (b o : Nat) (vs : List Value) : Prop := ∀ j u, vs[j]? = some u → w.cell? ⟨b, o + j, none⟩ = some u
structure SetL (w W : World) (b o : Nat) (vs : List Value) : Prop where
  at_ : BoxL W b o vs
  size : W.heap.size = w.heap.size
  below : ∀ B a, B ≤ b → Below B a w → Below B a W
  other : ∀ p : Addr, p.block ≠ b → W.cell? p = w.cell? p
  rest : ∀ j, j < o ∨ o + vs.length ≤ j → W.cell? ⟨b, j, none⟩ = w.cell? ⟨b, j, none⟩
  frozen : ∀ p : Addr, W.frozen? p = w.frozen? p
theorem setL (vs : List Value) : ∀ (w : World) (b o : Nat), (∀ j, j < vs.length → ∃ u, w.cell? ⟨b, o + j, none⟩ = some u) → SetL w (setCells w b o vs) b o vs := by
  induction vs with
  | nil => intro w b o _; exact ⟨fun j u h => by simp at h, rfl, fun _ _ _ h => h, fun _ _ => rfl, fun _ _ => rfl, fun _ => rfl⟩
  | cons v vs ih =>
    intro w b o hd
    have ne : ∀ (i j : Nat), i ≠ j → (⟨b, i, none⟩ : Addr) ≠ ⟨b, j, none⟩ := fun i j h e => h (by injection e)
    obtain ⟨u0, hu0⟩ := hd 0 (by simp)
    rw [Nat.add_zero] at hu0
    have h := ih (w.setCell ⟨b, o, none⟩ v) b (o + 1) (fun j hj => by
      obtain ⟨u, hu⟩ := hd (j + 1) (by simp; omega)
      exact ⟨u, by rw [World.cell?_setCell_other (h := ne _ _ (by omega)), show o + 1 + j = o + (j + 1) by omega]; exact hu⟩)
    refine ⟨fun j u hu => ?_, by rw [setCells, h.size]; simp [World.setCell], fun B a hB hb => h.below B a hB (hb.setCell hB _), fun p hp => ?_, fun j hj => ?_, fun p => ?_⟩
    · cases j with
      | zero =>
        simp at hu
        subst hu
        show (setCells (w.setCell ⟨b, o, none⟩ v) b (o + 1) vs).cell? ⟨b, o, none⟩ = some v
        rw [h.rest o (.inl (by omega))]
        exact World.cell?_setCell_same _ _ _ hu0
      | succ j =>
        have := h.at_ j u (by simpa using hu)
        rw [show o + (j + 1) = o + 1 + j by omega]
        exact this
    · rw [setCells, h.other p hp, World.cell?_setCell_other (h := fun e => hp (by rw [← e]))]
    · rw [setCells, h.rest j (by simp at hj; omega), World.cell?_setCell_other (h := ne _ _ (by simp at hj; omega))]
    · rw [setCells, h.frozen p, World.frozen?_setCell]
theorem BoxL.keep {w w' : World} {b o : Nat} {vs : List Value} (h : BoxL w b o vs) (hk : ∀ j, w'.cell? ⟨b, j, none⟩ = w.cell? ⟨b, j, none⟩) : BoxL w' b o vs := fun j u hu => (hk _).trans (h j u hu)
theorem BoxL.below {w w' : World} {b o B : Nat} {vs : List Value} (h : BoxL w b o vs) (hb : Below B w w') (hB : b < B) : BoxL w' b o vs := h.keep fun j => hb.cell (p := ⟨b, j, none⟩) hB
theorem BoxL.new (w : World) (arr : Array Value) (T : TypeId) (g : Nat) (hg : g = w.heap.size) (vs : List Value) (hv : vs = arr.toList) : BoxL (w.alloc (.cells arr T)) g 0 vs := by
  subst hg hv
  intro j u hu
  rw [Nat.zero_add, World.cell?_alloc_new]
  simpa using hu
theorem BoxL.has {w : World} {b o : Nat} {vs : List Value} (h : BoxL w b o vs) : ∀ j, j < vs.length → ∃ u, w.cell? ⟨b, o + j, none⟩ = some u := fun j hj => ⟨vs[j], h j _ (List.getElem?_eq_getElem hj)⟩
def FreeB (w : World) (b : Nat) : Prop := ∀ j, w.frozen? ⟨b, j, none⟩ = false
theorem FreeB.below {w w' : World} {b B : Nat} (h : FreeB w b) (hb : Below B w w') (hB : b < B) : FreeB w' b := fun j => (hb.frozen (p := ⟨b, j, none⟩) hB).trans (h j)
theorem FreeB.new (w : World) (arr : Array Value) (T : TypeId) (g : Nat) (hg : g = w.heap.size) : FreeB (w.alloc (.cells arr T)) g := by
  subst hg
  intro j
  exact World.frozen?_alloc_new _ _ _ _
/-! ### small words for worlds -/
theorem bNew (w : World) (o : Obj) : Below w.heap.size w (w.alloc o) := (Below.refl _ _).alloc (Nat.le_refl _) _
theorem bAl {W X : World} (h : Below W.heap.size W X) (o : Obj) : Below W.heap.size W (X.alloc o) := h.alloc h.size o
theorem bCl {W X Y : World} (h : Below W.heap.size W X) (hb : Below X.heap.size X Y) : Below W.heap.size W Y := h.trans (hb.mono h.size)
theorem bDn {B : Nat} {W X : World} (h : Below B W X) (n : Nat) : Below B W (X.drewN n) := ⟨h.os, h.tape, h.output, h.size, h.block⟩
theorem bDr {B : Nat} {W X : World} (h : Below B W.drew X) : Below B W X := ⟨h.os, h.tape, h.output, h.size, h.block⟩
theorem bDrN {B n : Nat} {W X : World} (h : Below B (W.drewN n) X) : Below B W X := ⟨h.os, h.tape, h.output, h.size, h.block⟩
theorem cIn {w : World} {a : Addr} {v : Value} (h : w.cell? a = some v) : a.block < w.heap.size := by
  rcases Nat.lt_or_ge a.block w.heap.size with h1 | h1
  · exact h1
  · simp [World.cell?, Array.getElem?_eq_none h1] at h
theorem cNew (W : World) (arr : Array Value) (T : TypeId) (b o : Nat) (hb : b = W.heap.size) : (W.alloc (.cells arr T)).cell? ⟨b, o, none⟩ = arr[o]? := by subst hb; exact World.cell?_alloc_new _ _ _ _
theorem heapNew (W : World) (o : Obj) (b : Nat) (hb : b = W.heap.size) : (W.alloc o).heap[b]? = some o := by subst hb; exact heap_alloc_new W o
theorem heapOld {W X : World} {B b : Nat} (h : Below B W X) (hb : b < B) : X.heap[b]? = W.heap[b]? := h.block b hb
end Go.Proofs.YtmahiejfniaahaaGreatDoor
set_option linter.unusedVariables false
set_option linter.unusedSimpArgs false
set_option maxRecDepth 100000
namespace Go.Proofs.YtmahiejfniaahaaGreatDoor
open Go.RowKit
set_option maxHeartbeats 400000 in
theorem bnamed_q (s : ByteArray) (w : World) (hs : s.size ≤ maxLen) :
    Calls Tryz.prog 147 #[.string s] w fun e w' => e = .returned (.bool (nameOk s)) ∧ w = w' := by
  unfold maxLen at hs
  go_enter Tryz.func147, Tryz.ntmps147
  go_wp2
  go_loop [3] (fun i => ∃ k : Nat, k ≤ s.size ∧ i = .int .i64 k ∧ printableS ((bytes s).drop k) = printableS (bytes s)) (fun i => s.size - (intOf i).toNat)
  case atStart => exact ⟨0, Nat.zero_le _, rfl, rfl⟩
  case round =>
    obtain ⟨k, hk, rfl, hrest⟩ := hrel
    have HR := hid hrest
    clear hrest
    by_cases hlt : k < s.size
    · have HN := hid (bytes_drop s k hlt)
      by_cases h1 : (s[k].toNat : Int) < 32
      · have HF : Hid (nameOk s = false) := by show _ = _; rw [nameOk, ← HR.out, HN.out, printableS, List.all_cons, decide_eq_false (show ¬ (32 ≤ (s[k].toNat : Int) ∧ (s[k].toNat : Int) ≤ 126) by omega)]; simp
        go_wp2
        go_ret
        exact ⟨by rw [HF.out]; rfl, rfl⟩
      · have d1 : decide ((s[k].toNat : Int) < 32) = false := by simpa using h1
        by_cases h2 : 126 < (s[k].toNat : Int)
        · have HF : Hid (nameOk s = false) := by show _ = _; rw [nameOk, ← HR.out, HN.out, printableS, List.all_cons, decide_eq_false (show ¬ (32 ≤ (s[k].toNat : Int) ∧ (s[k].toNat : Int) ≤ 126) by omega)]; simp
          go_wp2
          go_ret
          exact ⟨by rw [HF.out]; rfl, rfl⟩
        · have d2 : decide (126 < (s[k].toNat : Int)) = false := by simpa using h2
          have HF : Hid (printableS ((bytes s).drop (k + 1)) = printableS (bytes s)) := by show _ = _; rw [← HR.out, HN.out, printableS, printableS, List.all_cons, decide_eq_true (show 32 ≤ (s[k].toNat : Int) ∧ (s[k].toNat : Int) ≤ 126 by omega)]; rfl
          go_wp2
          go_round
          case rel => exact ⟨k + 1, by omega, by go_num, HF.out⟩
          case measure => simp [intOf]; omega
    · have HP : Hid (printableS (bytes s) = true) := by show _ = _; rw [← HR.out, bytes_drop_end s k hlt]; rfl
      by_cases h4 : 1 ≤ s.size
      · have d4 : decide ((1 : Int) ≤ (s.size : Int)) = true := by simp; omega
        by_cases h3 : s.size ≤ 16
        · have HF : Hid (nameOk s = true) := by show _ = _; rw [nameOk, HP.out, decide_eq_true ⟨h4, h3⟩]; rfl
          have d3 : decide ((s.size : Int) ≤ 16) = true := by simp; omega
          go_wp2
          go_ret
          exact ⟨by rw [HF.out]; rfl, rfl⟩
        · have HF : Hid (nameOk s = false) := by show _ = _; rw [nameOk, HP.out, decide_eq_false (by omega)]; rfl
          have d3 : decide ((s.size : Int) ≤ 16) = false := by simp; omega
          go_wp2
          go_ret
          exact ⟨by rw [HF.out]; rfl, rfl⟩
      · have HF : Hid (nameOk s = false) := by show _ = _; rw [nameOk, HP.out, decide_eq_false (by omega)]; rfl
        have d4 : decide ((1 : Int) ≤ (s.size : Int)) = false := by simp; omega
        go_wp2
        go_ret
        exact ⟨by rw [HF.out]; rfl, rfl⟩
set_option maxHeartbeats 2000000 in
theorem bsource_q (g o : Nat) (f : BxF) (vk : Value) (As : Option Addr) (cs : Nat) (w : World) (S : Nat → Prop) (hb : Box11 w g o f vk (.slice As f.src.length cs)) (hsrc : IntsR w S f.src (.slice As f.src.length cs)) :
    Calls Tryz.prog 148 #[.pointer (some ⟨g, o, none⟩)] w fun e w' => e = .returned (.bool (srcOk f)) ∧ w = w' := by
  have hm := hsrc.lens
  unfold maxLen at hm
  obtain ⟨A', cap', rs, e, h1, h2, hrd, hls⟩ := hsrc
  cases e
  have c9 := hb.c9
  have c10 := hb.c10
  have HSO : Hid (srcOk f = (f.src.all (fun i => decide (0 ≤ i)) && (if f.of_ = 0 then decide (f.src.length = 0) else if f.of_ = 1 then decide (f.src.length % 2 = 0 ∧ f.src.length ≤ 48) else if f.of_ = 2 then decide (f.src.length % 2 = 1 ∧ f.src.length ≤ 49) else false))) := rfl
  have HAT : Hid (∀ k (hk : k < f.src.length), ∃ g1 o1, As = some ⟨g1, o1, none⟩ ∧ w.cell? ⟨g1, o1 + k, none⟩ = some (.int .i64 f.src[k])) := fun k hk => by
    obtain ⟨g1, o1, e, _, _, hc⟩ := ints_at hrd hls hk
    exact ⟨g1, o1, e, hc⟩
  generalize srcOk f = R at *
  generalize f.of_ = q at *
  generalize f.src = src at *
  clear hb hrd hls h1 h2
  go_enter Tryz.func148, Tryz.ntmps148
  go_wp2_with fail
  go_loop [11] (fun i => ∃ k : Nat, k ≤ src.length ∧ i = .int .i64 k ∧ (src.drop k).all (fun i => decide (0 ≤ i)) = src.all (fun i => decide (0 ≤ i))) (fun i => src.length - (intOf i).toNat)
  case atStart => exact ⟨0, Nat.zero_le _, rfl, rfl⟩
  case round =>
    obtain ⟨k, hk, rfl, hrest⟩ := hrel
    have HR := hid hrest
    clear hrest
    rcases Nat.lt_or_ge k src.length with hlt | hge
    · obtain ⟨g1, o1, rfl, hc⟩ := HAT.out k hlt
      have HD : Hid ((src.drop k).all (fun i => decide (0 ≤ i)) = (decide (0 ≤ src[k]) && (src.drop (k + 1)).all (fun i => decide (0 ≤ i)))) := by show _ = _; rw [List.drop_eq_getElem_cons hlt, List.all_cons]
      have i0 : decide ((k : Int) < (src.length : Int)) = true := by rw [decide_eq_true_eq]; omega
      have i6 : (0 : Int) ≤ (k : Int) := by omega
      have i7 : (k : Int) < (src.length : Int) := by omega
      generalize src[k] = x at *
      by_cases hx : x < 0
      · have HF : Hid (R = false) := by show _ = _; rw [HSO.out, ← HR.out, HD.out, decide_eq_false (by omega)]; rfl
        have d0 : decide (x < 0) = true := by simpa using hx
        go_wp2_with fail
        go_ret
        exact ⟨by rw [HF.out]; rfl, rfl⟩
      · have d0 : decide (x < 0) = false := by simpa using hx
        have HF : Hid ((src.drop (k + 1)).all (fun i => decide (0 ≤ i)) = src.all (fun i => decide (0 ≤ i))) := by show _ = _; rw [← HR.out, HD.out, decide_eq_true (show 0 ≤ x by omega), Bool.true_and]
        go_wp2_with fail
        go_round
        case rel => exact ⟨k + 1, by omega, by go_num, HF.out⟩
        case measure => simp [intOf]; omega
    · have i0 : decide ((k : Int) < (src.length : Int)) = false := by rw [decide_eq_false_iff_not]; omega
      have HP : Hid (src.all (fun i => decide (0 ≤ i)) = true) := by show _ = _; rw [← HR.out, List.drop_of_length_le hge]; rfl
      have HSO2 : Hid (R = (if q = 0 then decide (src.length = 0) else if q = 1 then decide (src.length % 2 = 0 ∧ src.length ≤ 48) else if q = 2 then decide (src.length % 2 = 1 ∧ src.length ≤ 49) else false)) := by show _ = _; rw [HSO.out, HP.out, Bool.true_and]
      clear HSO HAT HP HR
      generalize src.length = n at *
      by_cases q0 : q = 0
      · subst q0
        by_cases hn : n = 0
        · have HF : Hid (R = true) := by show _ = _; rw [HSO2.out]; simp [hn]
          have d1 : ((n : Int) == 0) = true := by simp; omega
          go_wp2_with fail
          go_ret
          exact ⟨by rw [HF.out]; rfl, rfl⟩
        · have HF : Hid (R = false) := by show _ = _; rw [HSO2.out]; simp [hn]
          have d1 : ((n : Int) == 0) = false := by simp; omega
          go_wp2_with fail
          go_ret
          exact ⟨by rw [HF.out]; rfl, rfl⟩
      have i1 : (q == 0) = false := by simpa using q0
      by_cases q1 : q = 1
      · subst q1
        by_cases hn : n % 2 = 0
        · have d1 : ((n : Int) % 2 == 0) = true := by simp; omega
          by_cases hl : n ≤ 48
          · have HF : Hid (R = true) := by show _ = _; rw [HSO2.out]; simp [hn, hl]
            have d2 : decide ((n : Int) ≤ 48) = true := by simp; omega
            go_wp2_with fail
            go_ret
            exact ⟨by rw [HF.out]; rfl, rfl⟩
          · have HF : Hid (R = false) := by show _ = _; rw [HSO2.out]; simp [hn, hl]
            have d2 : decide ((n : Int) ≤ 48) = false := by simp; omega
            go_wp2_with fail
            go_ret
            exact ⟨by rw [HF.out]; rfl, rfl⟩
        · have d1 : ((n : Int) % 2 == 0) = false := by simp; omega
          have HF : Hid (R = false) := by show _ = _; rw [HSO2.out]; simp [hn]
          go_wp2_with fail
          go_ret
          exact ⟨by rw [HF.out]; rfl, rfl⟩
      have i2 : (q == 1) = false := by simpa using q1
      by_cases q2 : q = 2
      · subst q2
        by_cases hn : n % 2 = 1
        · have d1 : ((n : Int) % 2 == 1) = true := by simp; omega
          by_cases hl : n ≤ 49
          · have HF : Hid (R = true) := by show _ = _; rw [HSO2.out]; simp [hn, hl]
            have d2 : decide ((n : Int) ≤ 49) = true := by simp; omega
            go_wp2_with fail
            go_ret
            exact ⟨by rw [HF.out]; rfl, rfl⟩
          · have HF : Hid (R = false) := by show _ = _; rw [HSO2.out]; simp [hn, hl]
            have d2 : decide ((n : Int) ≤ 49) = false := by simp; omega
            go_wp2_with fail
            go_ret
            exact ⟨by rw [HF.out]; rfl, rfl⟩
        · have d1 : ((n : Int) % 2 == 1) = false := by simp; omega
          have HF : Hid (R = false) := by show _ = _; rw [HSO2.out]; simp [hn]
          go_wp2_with fail
          go_ret
          exact ⟨by rw [HF.out]; rfl, rfl⟩
      have i3 : (q == 2) = false := by simpa using q2
      have HF : Hid (R = false) := by show _ = _; rw [HSO2.out]; simp [q0, q1, q2]
      go_wp2_with fail
      go_ret
      exact ⟨by rw [HF.out]; rfl, rfl⟩
end Go.Proofs.YtmahiejfniaahaaGreatDoor
set_option linter.unusedVariables false
set_option linter.unusedSimpArgs false
set_option maxRecDepth 100000
namespace Go.Proofs.YtmahiejfniaahaaGreatDoor
open Go.RowKit
set_option maxHeartbeats 8000000 in
theorem bown_q (g o : Nat) (f : BxF) (n : Nat) (Ak As : Option Addr) (ck cs : Nat) (w : World) (S : Nat → Prop) (hb : Box11 w g o f (.slice Ak n ck) (.slice As f.src.length cs)) (hsrc : IntsR w S f.src (.slice As f.src.length cs)) (hnm : f.name.size ≤ maxLen) (hn : n ≤ 9223372036854775807) :
    Calls Tryz.prog 121 #[.pointer (some ⟨g, o, none⟩)] w fun e w' => e = .returned (.bool (ownB f n)) ∧ ∃ k, w' = w.drewN k := by
  have HNM : Hid (∀ W, Calls Tryz.prog 147 #[.string f.name] W fun e w' => e = .returned (.bool (nameOk f.name)) ∧ W = w') := fun W => bnamed_q f.name W hnm
  have HSR : Hid (∀ k, Calls Tryz.prog 148 #[.pointer (some ⟨g, o, none⟩)] (w.drewN k) fun e w' => e = .returned (.bool (srcOk f)) ∧ w.drewN k = w') := fun k =>
    bsource_q g o f _ As cs (w.drewN k) S (hb.keep (fun _ => rfl)) (hsrc.keep (fun _ _ => rfl) (fun _ h => h))
  have HO : Hid (ownB f n = (lensOk f && (if f.kind = 1 then nameOk f.name && (decide (1 ≤ f.size ∧ f.size ≤ 1000) && (decide (n = 0) && srcOk f))
    else if f.kind = 2 then f.name.toList.isEmpty && (decide (f.size = 0) && (decide (n = 0) && srcOk f))
    else if f.kind = 3 then f.name.toList.isEmpty && (decide (f.size = 0) && srcOk f) else false))) := rfl
  have HL : Hid (lensOk f = [f.w, f.h, f.d, f.x, f.y].all lenOk) := rfl
  obtain ⟨c0, c1, c2, c3, c4, c5, c6, c7, c8, c9, c10⟩ := hb
  clear hsrc hnm
  generalize ownB f n = R at *
  generalize lensOk f = RL at *
  generalize srcOk f = bs at *
  obtain ⟨kind, name, size, bw, bh, bd, bx, by_, of_, src⟩ := f
  simp only at *
  generalize nameOk name = bn at *
  generalize hne : name.toList.isEmpty = be at *
  go_enter Tryz.func121, Tryz.ntmps121
  go_wp2_with fail
  go_quiet (fail)
  go_wp2_with fail
  go_loop [26] (fun i => ∃ k : Nat, k ≤ 5 ∧ i = .int .i64 k ∧ ([bw, bh, bd, bx, by_].drop k).all lenOk = RL) (fun i => 5 - (intOf i).toNat)
  case atStart => exact ⟨0, by omega, rfl, HL.out.symm⟩
  case round =>
    obtain ⟨k, hk, rfl, hrest⟩ := hrel
    have HR := hid hrest
    clear hrest HL
    have hk5 : k = 5 ∨ k = 0 ∨ k = 1 ∨ k = 2 ∨ k = 3 ∨ k = 4 := by omega
    rcases hk5 with rfl | rfl | rfl | rfl | rfl | rfl
    · have hRL : RL = true := HR.out.symm
      subst hRL
      have HO2 : Hid (R = (if kind = 1 then bn && (decide (1 ≤ size ∧ size ≤ 1000) && (decide (n = 0) && bs)) else if kind = 2 then be && (decide (size = 0) && (decide (n = 0) && bs)) else if kind = 3 then be && (decide (size = 0) && bs) else false)) := by show _ = _; rw [HO.out, Bool.true_and]
      clear HO HR
      by_cases k1 : kind = 1
      · subst k1
        cases bn with
        | false =>
          have HF : Hid (R = false) := by show _ = _; rw [HO2.out]; simp
          go_wp2_with fail
          refine (HNM.out _).mono ?_
          rintro e w1 ⟨rfl, rfl⟩
          go_wp2_with fail
          go_ret
          exact ⟨by rw [HF.out]; rfl, _, rfl⟩
        | true =>
          by_cases s1 : 1 ≤ size
          · have d1 : decide (1 ≤ size) = true := by simpa using s1
            by_cases s2 : size ≤ 1000
            · have d2 : decide (size ≤ 1000) = true := by simpa using s2
              by_cases s3 : n = 0
              · subst s3
                have HF : Hid (R = bs) := by show _ = _; rw [HO2.out]; simp [s1, s2]
                go_wp2_with fail
                refine (HNM.out _).mono ?_
                rintro e w1 ⟨rfl, rfl⟩
                go_wp2_with fail
                refine (HSR.out _).mono ?_
                rintro e w1 ⟨rfl, rfl⟩
                go_wp2_with fail
                go_ret
                exact ⟨by rw [HF.out]; rfl, _, rfl⟩
              have d3 : ((n : Int) == 0) = false := by simp; omega
              have HF : Hid (R = false) := by show _ = _; rw [HO2.out]; simp [s3]
              go_wp2_with fail
              refine (HNM.out _).mono ?_
              rintro e w1 ⟨rfl, rfl⟩
              go_wp2_with fail
              go_ret
              exact ⟨by rw [HF.out]; rfl, _, rfl⟩
            have d2 : decide (size ≤ 1000) = false := by simpa using s2
            have HF : Hid (R = false) := by show _ = _; rw [HO2.out]; simp [s2]
            go_wp2_with fail
            refine (HNM.out _).mono ?_
            rintro e w1 ⟨rfl, rfl⟩
            go_wp2_with fail
            go_ret
            exact ⟨by rw [HF.out]; rfl, _, rfl⟩
          have d1 : decide (1 ≤ size) = false := by simpa using s1
          have HF : Hid (R = false) := by show _ = _; rw [HO2.out]; simp [s1]
          go_wp2_with fail
          refine (HNM.out _).mono ?_
          rintro e w1 ⟨rfl, rfl⟩
          go_wp2_with fail
          go_ret
          exact ⟨by rw [HF.out]; rfl, _, rfl⟩
      have e1 : (kind == 1) = false := by simpa using k1
      by_cases k2 : kind = 2
      · subst k2
        cases be with
        | false =>
          have HF : Hid (R = false) := by show _ = _; rw [HO2.out]; simp [show ¬ ((2 : Int) = 1) by omega]
          go_wp2_with fail
          go_ret
          exact ⟨by rw [HF.out]; rfl, _, rfl⟩
        | true =>
          by_cases s1 : size = 0
          · subst s1
            by_cases s3 : n = 0
            · subst s3
              have HF : Hid (R = bs) := by show _ = _; rw [HO2.out]; simp [show ¬ ((2 : Int) = 1) by omega]
              go_wp2_with fail
              refine (HSR.out _).mono ?_
              rintro e w1 ⟨rfl, rfl⟩
              go_wp2_with fail
              go_ret
              exact ⟨by rw [HF.out]; rfl, _, rfl⟩
            have d3 : ((n : Int) == 0) = false := by simp; omega
            have HF : Hid (R = false) := by show _ = _; rw [HO2.out]; simp [show ¬ ((2 : Int) = 1) by omega, s3]
            go_wp2_with fail
            go_ret
            exact ⟨by rw [HF.out]; rfl, _, rfl⟩
          have d1 : (size == 0) = false := by simpa using s1
          have HF : Hid (R = false) := by show _ = _; rw [HO2.out]; simp [show ¬ ((2 : Int) = 1) by omega, s1]
          go_wp2_with fail
          go_ret
          exact ⟨by rw [HF.out]; rfl, _, rfl⟩
      have e2 : (kind == 2) = false := by simpa using k2
      by_cases k3 : kind = 3
      · subst k3
        cases be with
        | false =>
          have HF : Hid (R = false) := by show _ = _; rw [HO2.out]; simp [show ¬ ((3 : Int) = 1) by omega, show ¬ ((3 : Int) = 2) by omega]
          go_wp2_with fail
          go_ret
          exact ⟨by rw [HF.out]; rfl, _, rfl⟩
        | true =>
          by_cases s1 : size = 0
          · subst s1
            have HF : Hid (R = bs) := by show _ = _; rw [HO2.out]; simp [show ¬ ((3 : Int) = 1) by omega, show ¬ ((3 : Int) = 2) by omega]
            go_wp2_with fail
            refine (HSR.out _).mono ?_
            rintro e w1 ⟨rfl, rfl⟩
            go_wp2_with fail
            go_ret
            exact ⟨by rw [HF.out]; rfl, _, rfl⟩
          have d1 : (size == 0) = false := by simpa using s1
          have HF : Hid (R = false) := by show _ = _; rw [HO2.out]; simp [show ¬ ((3 : Int) = 1) by omega, show ¬ ((3 : Int) = 2) by omega, s1]
          go_wp2_with fail
          go_ret
          exact ⟨by rw [HF.out]; rfl, _, rfl⟩
      have e3 : (kind == 3) = false := by simpa using k3
      have HF : Hid (R = false) := by show _ = _; rw [HO2.out]; simp [k1, k2, k3]
      go_wp2_with fail
      go_ret
      exact ⟨by rw [HF.out]; rfl, _, rfl⟩
    · have hix : ∀ W : World, (Instr.index 170 (.agg #[.int .i64 bw, .int .i64 bh, .int .i64 bd, .int .i64 bx, .int .i64 by_]) (.int .i64 0)).run Tryz.prog W = .ok (.int .i64 bw) W := fun _ => rfl
      have HD : Hid ((lenOk bw && [bh, bd, bx, by_].all lenOk) = RL) := HR.out
      by_cases h1 : bw < -1073741824
      · have d1 : decide (bw < -1073741824) = true := by simpa using h1
        have HF : Hid (R = false) := by show _ = _; rw [HO.out, ← HD.out, lenOk, decide_eq_false (by omega)]; rfl
        go_wp2_with fail
        go_ret
        exact ⟨by rw [HF.out]; rfl, _, rfl⟩
      have d1 : decide (bw < -1073741824) = false := by simpa using h1
      by_cases h2 : 1073741824 < bw
      · have d2 : decide (1073741824 < bw) = true := by simpa using h2
        have HF : Hid (R = false) := by show _ = _; rw [HO.out, ← HD.out, lenOk, decide_eq_false (by omega)]; rfl
        go_wp2_with fail
        go_ret
        exact ⟨by rw [HF.out]; rfl, _, rfl⟩
      have d2 : decide (1073741824 < bw) = false := by simpa using h2
      have HF : Hid ([bh, bd, bx, by_].all lenOk = RL) := by show _ = _; rw [← HD.out, lenOk, decide_eq_true (by omega)]; rfl
      go_wp2_with fail
      go_round
      case rel => exact ⟨1, by omega, by go_num, HF.out⟩
      case measure => simp [intOf]
    · have hix : ∀ W : World, (Instr.index 170 (.agg #[.int .i64 bw, .int .i64 bh, .int .i64 bd, .int .i64 bx, .int .i64 by_]) (.int .i64 1)).run Tryz.prog W = .ok (.int .i64 bh) W := fun _ => rfl
      have HD : Hid ((lenOk bh && [bd, bx, by_].all lenOk) = RL) := HR.out
      by_cases h1 : bh < -1073741824
      · have d1 : decide (bh < -1073741824) = true := by simpa using h1
        have HF : Hid (R = false) := by show _ = _; rw [HO.out, ← HD.out, lenOk, decide_eq_false (by omega)]; rfl
        go_wp2_with fail
        go_ret
        exact ⟨by rw [HF.out]; rfl, _, rfl⟩
      have d1 : decide (bh < -1073741824) = false := by simpa using h1
      by_cases h2 : 1073741824 < bh
      · have d2 : decide (1073741824 < bh) = true := by simpa using h2
        have HF : Hid (R = false) := by show _ = _; rw [HO.out, ← HD.out, lenOk, decide_eq_false (by omega)]; rfl
        go_wp2_with fail
        go_ret
        exact ⟨by rw [HF.out]; rfl, _, rfl⟩
      have d2 : decide (1073741824 < bh) = false := by simpa using h2
      have HF : Hid ([bd, bx, by_].all lenOk = RL) := by show _ = _; rw [← HD.out, lenOk, decide_eq_true (by omega)]; rfl
      go_wp2_with fail
      go_round
      case rel => exact ⟨2, by omega, by go_num, HF.out⟩
      case measure => simp [intOf]
    · have hix : ∀ W : World, (Instr.index 170 (.agg #[.int .i64 bw, .int .i64 bh, .int .i64 bd, .int .i64 bx, .int .i64 by_]) (.int .i64 2)).run Tryz.prog W = .ok (.int .i64 bd) W := fun _ => rfl
      have HD : Hid ((lenOk bd && [bx, by_].all lenOk) = RL) := HR.out
      by_cases h1 : bd < -1073741824
      · have d1 : decide (bd < -1073741824) = true := by simpa using h1
        have HF : Hid (R = false) := by show _ = _; rw [HO.out, ← HD.out, lenOk, decide_eq_false (by omega)]; rfl
        go_wp2_with fail
        go_ret
        exact ⟨by rw [HF.out]; rfl, _, rfl⟩
      have d1 : decide (bd < -1073741824) = false := by simpa using h1
      by_cases h2 : 1073741824 < bd
      · have d2 : decide (1073741824 < bd) = true := by simpa using h2
        have HF : Hid (R = false) := by show _ = _; rw [HO.out, ← HD.out, lenOk, decide_eq_false (by omega)]; rfl
        go_wp2_with fail
        go_ret
        exact ⟨by rw [HF.out]; rfl, _, rfl⟩
      have d2 : decide (1073741824 < bd) = false := by simpa using h2
      have HF : Hid ([bx, by_].all lenOk = RL) := by show _ = _; rw [← HD.out, lenOk, decide_eq_true (by omega)]; rfl
      go_wp2_with fail
      go_round
      case rel => exact ⟨3, by omega, by go_num, HF.out⟩
      case measure => simp [intOf]
    · have hix : ∀ W : World, (Instr.index 170 (.agg #[.int .i64 bw, .int .i64 bh, .int .i64 bd, .int .i64 bx, .int .i64 by_]) (.int .i64 3)).run Tryz.prog W = .ok (.int .i64 bx) W := fun _ => rfl
      have HD : Hid ((lenOk bx && [by_].all lenOk) = RL) := HR.out
      by_cases h1 : bx < -1073741824
      · have d1 : decide (bx < -1073741824) = true := by simpa using h1
        have HF : Hid (R = false) := by show _ = _; rw [HO.out, ← HD.out, lenOk, decide_eq_false (by omega)]; rfl
        go_wp2_with fail
        go_ret
        exact ⟨by rw [HF.out]; rfl, _, rfl⟩
      have d1 : decide (bx < -1073741824) = false := by simpa using h1
      by_cases h2 : 1073741824 < bx
      · have d2 : decide (1073741824 < bx) = true := by simpa using h2
        have HF : Hid (R = false) := by show _ = _; rw [HO.out, ← HD.out, lenOk, decide_eq_false (by omega)]; rfl
        go_wp2_with fail
        go_ret
        exact ⟨by rw [HF.out]; rfl, _, rfl⟩
      have d2 : decide (1073741824 < bx) = false := by simpa using h2
      have HF : Hid ([by_].all lenOk = RL) := by show _ = _; rw [← HD.out, lenOk, decide_eq_true (by omega)]; rfl
      go_wp2_with fail
      go_round
      case rel => exact ⟨4, by omega, by go_num, HF.out⟩
      case measure => simp [intOf]
    · have hix : ∀ W : World, (Instr.index 170 (.agg #[.int .i64 bw, .int .i64 bh, .int .i64 bd, .int .i64 bx, .int .i64 by_]) (.int .i64 4)).run Tryz.prog W = .ok (.int .i64 by_) W := fun _ => rfl
      have HD : Hid ((lenOk by_ && [].all lenOk) = RL) := HR.out
      by_cases h1 : by_ < -1073741824
      · have d1 : decide (by_ < -1073741824) = true := by simpa using h1
        have HF : Hid (R = false) := by show _ = _; rw [HO.out, ← HD.out, lenOk, decide_eq_false (by omega)]; rfl
        go_wp2_with fail
        go_ret
        exact ⟨by rw [HF.out]; rfl, _, rfl⟩
      have d1 : decide (by_ < -1073741824) = false := by simpa using h1
      by_cases h2 : 1073741824 < by_
      · have d2 : decide (1073741824 < by_) = true := by simpa using h2
        have HF : Hid (R = false) := by show _ = _; rw [HO.out, ← HD.out, lenOk, decide_eq_false (by omega)]; rfl
        go_wp2_with fail
        go_ret
        exact ⟨by rw [HF.out]; rfl, _, rfl⟩
      have d2 : decide (1073741824 < by_) = false := by simpa using h2
      have HF : Hid ([].all lenOk = RL) := by show _ = _; rw [← HD.out, lenOk, decide_eq_true (by omega)]; rfl
      go_wp2_with fail
      go_round
      case rel => exact ⟨5, by omega, by go_num, HF.out⟩
      case measure => simp [intOf]
end Go.Proofs.YtmahiejfniaahaaGreatDoor
set_option linter.unusedVariables false
set_option linter.unusedSimpArgs false
set_option maxRecDepth 100000
namespace Go.Proofs.YtmahiejfniaahaaGreatDoor
open Go.RowKit
theorem Bx.ind {P : Bx → Prop} (h : ∀ t : Bx, (∀ k ∈ t.kids, P k) → P t) : ∀ t, P t := by
  intro t
  have : ∀ (n : Nat) (t : Bx), SizeOf.sizeOf t ≤ n → P t := by
    intro n
    induction n with
    | zero => intro t ht; cases t; simp at ht
    | succ n ih =>
      intro t ht
      refine h t fun k hk => ih k ?_
      cases t with
      | mk a ts =>
        have := List.sizeOf_lt_of_mem (show k ∈ ts from hk)
        simp at ht; omega
  exact this _ t (Nat.le_refl _)
theorem goBs_drop {ks : List Bx} {k : Nat} (h : k < ks.length) (d c : Int) : goBs (ks.drop k) d c = if (goB ks[k] d c).1 = true then goBs (ks.drop (k + 1)) d (goB ks[k] d c).2 else (false, (goB ks[k] d c).2) := by
  rw [List.drop_eq_getElem_cons h, goBs]
def BoxAt (w : World) (S : Nat → Prop) (g o : Nat) (b : Bx) (Ak As : Option Addr) (ck cs : Nat) : Prop :=
  Box11 w g o b.f (.slice Ak b.kids.length ck) (.slice As b.f.src.length cs) ∧ S g ∧ b.f.Ok ∧ IntsR w S b.f.src (.slice As b.f.src.length cs) ∧ BoxesS w S b.kids (.slice Ak b.kids.length ck)
theorem BoxAt.below {w w' : World} {B g o : Nat} {b : Bx} {Ak As : Option Addr} {ck cs : Nat} (h : BoxAt w (Lt B) g o b Ak As ck cs) (hb : Below B w w') : BoxAt w' (Lt B) g o b Ak As ck cs := by
  obtain ⟨h1, h2, h3, h4, h5⟩ := h
  exact ⟨h1.below hb h2, h2, h3, h4.below hb (Nat.le_refl _), h5.below hb (Nat.le_refl _)⟩
def CntPost (B q : Nat) (w : World) (r : Bool × Int) (e : Ending) (w' : World) : Prop :=
  e = .returned (.bool r.1) ∧ Below B w w' ∧ w'.cell? ⟨q, 0, none⟩ = some (.int .i64 r.2) ∧ w'.frozen? ⟨q, 0, none⟩ = false
theorem blDn {B : Nat} {a w : World} (h : Below B a w) (n : Nat) : Below B a (w.drewN n) := ⟨h.os, h.tape, h.output, h.size, h.block⟩
set_option maxHeartbeats 4000000 in
theorem bvalid_any (b : Bx) : ∀ (w : World) (B g o q : Nat) (Ak As : Option Addr) (ck cs : Nat) (d c : Int) (_ : BoxAt w (Lt B) g o b Ak As ck cs) (_ : B ≤ q) (_ : w.cell? ⟨q, 0, none⟩ = some (.int .i64 c)) (_ : w.frozen? ⟨q, 0, none⟩ = false) (_ : 0 ≤ c ∧ c ≤ 20000) (_ : 1 ≤ d ∧ d ≤ 101),
    Calls Tryz.prog 93 #[.pointer (some ⟨g, o, none⟩), .int .i64 d, .pointer (some ⟨q, 0, none⟩)] w (CntPost B q w (goB b d c)) := by
  induction b using Bx.ind with
  | h b ih =>
  obtain ⟨f, ks⟩ := b
  intro w B g o q Ak As ck cs d c hN hBq kq fq ⟨hc0, hc1⟩ ⟨hd0, hd1⟩
  have HNA := hid hN
  simp only [Bx.kids] at ih
  have hlen : ks.length ≤ 9223372036854775807 := by have := hN.2.2.2.2.lens; unfold maxLen at this; exact Nat.le_trans this (by omega)
  have HG : Hid (goB (.mk f ks) d c = if c + 1 > 20000 ∨ d > 100 ∨ ownB f ks.length = false then (false, c + 1) else goBs ks (d + 1) (c + 1)) := by show _ = _; rw [goB]
  obtain ⟨W1, hW1⟩ : ∃ W1, w.setCell ⟨q, 0, none⟩ (.int .i64 (c + 1)) = W1 := ⟨_, rfl⟩
  have hb1 : Below B w W1 := by rw [← hW1]; exact (Below.refl B w).setCell (p := ⟨q, 0, none⟩) hBq _
  have k1 : W1.cell? ⟨q, 0, none⟩ = some (.int .i64 (c + 1)) := by rw [← hW1]; exact World.cell?_setCell_same _ _ _ kq
  have f1 : W1.frozen? ⟨q, 0, none⟩ = false := by rw [← hW1, World.frozen?_setCell]; exact fq
  have HB1 := hid hb1
  have HO : Hid (Calls Tryz.prog 121 #[.pointer (some ⟨g, o, none⟩)] W1 fun e w' => e = .returned (.bool (ownB f ks.length)) ∧ ∃ k, w' = W1.drewN k) := by
    obtain ⟨a1, a2, a3, a4, a5⟩ := hN.below hb1
    exact bown_q g o f ks.length Ak As ck cs W1 (Lt B) a1 a4 a3.name hlen
  have HIH := hid ih
  clear hN ih hb1
  by_cases h1 : c + 1 > 20000
  · have d1 : decide (20000 < c + 1) = true := by simpa using h1
    have hF : goB (.mk f ks) d c = (false, c + 1) := by rw [HG.out, if_pos (.inl h1)]
    rw [hF]
    clear hF HG HO
    go_enter Tryz.func93, Tryz.ntmps93
    go_upto_region 2 with fail
    clear hW1 kq fq
    go_wp2_with fail
    go_ret
    exact ⟨rfl, HB1.out, k1, f1⟩
  have d1 : decide (20000 < c + 1) = false := by simpa using h1
  by_cases h2 : d > 100
  · have d2 : decide (100 < d) = true := by simpa using h2
    have hF : goB (.mk f ks) d c = (false, c + 1) := by rw [HG.out, if_pos (.inr (.inl h2))]
    rw [hF]
    clear hF HG HO
    go_enter Tryz.func93, Tryz.ntmps93
    go_upto_region 2 with fail
    clear hW1 kq fq
    go_wp2_with fail
    go_ret
    exact ⟨rfl, HB1.out, k1, f1⟩
  have d2 : decide (100 < d) = false := by simpa using h2
  cases hob : ownB f ks.length with
  | false =>
    have hF : goB (.mk f ks) d c = (false, c + 1) := by rw [HG.out, if_pos (.inr (.inr hob))]
    rw [hF]
    rw [hob] at HO
    clear hF HG hob
    go_enter Tryz.func93, Tryz.ntmps93
    go_upto_region 2 with fail
    clear hW1 kq fq
    go_wp2_with fail
    refine HO.out.mono ?_
    rintro e w1 ⟨rfl, n1, rfl⟩
    go_wp2_with fail
    go_ret
    exact ⟨rfl, blDn HB1.out n1, k1, f1⟩
  | true =>
  have hF : goB (.mk f ks) d c = goBs ks (d + 1) (c + 1) := by rw [HG.out, if_neg (by rw [hob]; simp; omega)]
  rw [hF]
  rw [hob] at HO
  have hc8 := (HNA.out.below HB1.out).1.c8
  clear hF HG hob
  generalize hR : goBs ks (d + 1) (c + 1) = R at *
  have HR0 := hid hR
  have hd2 : d ≤ 100 := by omega
  have hc2 : c + 1 ≤ 20000 := by omega
  clear hR h1 h2
  simp only [Bx.f, Bx.kids] at hc8
  go_enter Tryz.func93, Tryz.ntmps93
  go_upto_region 2 with fail
  clear hW1 kq fq
  go_wp2_with fail
  refine HO.out.mono ?_
  rintro e w1 ⟨rfl, n1, rfl⟩
  have HK1 := hid k1
  have HF1 := hid f1
  clear k1 f1
  go_wp2_with fail
  clear hc8 d1 d2
  go_loopw [31] (fun i wr => Below B w wr ∧ ∃ (k : Nat) (M : Int), k ≤ ks.length ∧ i = .int .i64 k ∧ wr.cell? ⟨q, 0, none⟩ = some (.int .i64 M) ∧ wr.frozen? ⟨q, 0, none⟩ = false ∧ 0 ≤ M ∧ M ≤ 20000 ∧ goBs (ks.drop k) (d + 1) M = R) (fun i _ => ks.length - (intOf i).toNat)
  case atStart => exact ⟨blDn HB1.out n1, 0, c + 1, Nat.zero_le _, rfl, HK1.out, HF1.out, by omega, hc2, HR0.out⟩
  case round =>
    obtain ⟨hb, k, M, hk, rfl, kM, fM, hM0, hM1, hrest⟩ := hrel
    have HR := hid hrest
    have HB := hid hb
    obtain ⟨h11, hg, hfo, hsrc, hkids⟩ := HNA.out.below hb
    have c8 := h11.c8
    simp only [Bx.f, Bx.kids] at c8 hkids
    clear hrest hb h11 hfo hsrc
    rcases Nat.lt_or_ge k ks.length with hlt | hge
    · obtain ⟨_, _, rs, hq, _, _, hrd, hls⟩ := hkids
      cases hq
      obtain ⟨g', o', A', c', vs', rfl, hg', hb11, hfo, hsrc, hkk⟩ := boxes_at hrd hls hlt
      obtain ⟨As', cs', rfl⟩ := hsrc.form
      have HCC := hid (HIH.out ks[k] (List.getElem_mem hlt) wr B g' (o' + k * 11) q A' As' c' cs' (d + 1) M ⟨hb11, hg', hfo, hsrc, hkk⟩ hBq kM fM ⟨hM0, hM1⟩ ⟨by omega, by omega⟩)
      have HD := hid (goBs_drop hlt (d + 1) M)
      have HI := hid (goB_iff ks[k] (d + 1) M)
      have i0 : decide ((k : Int) < (ks.length : Int)) = true := by rw [decide_eq_true_eq]; omega
      have i6 : (0 : Int) ≤ (k : Int) := by omega
      have i7 : (k : Int) < (ks.length : Int) := by omega
      generalize goB ks[k] (d + 1) M = r at *
      obtain ⟨rb, rM⟩ := r
      simp only at HI HD
      clear hrd hls hb11 hfo hsrc hkk hg hg'
      cases rb with
      | false =>
        have hF : R = (false, rM) := by rw [← HR.out, HD.out]; rfl
        rw [hF]
        clear hF HR0 HR HD HI
        go_wp2_with fail
        refine HCC.out.mono ?_
        rintro e w3 ⟨rfl, hb3, k3, f3⟩
        have HB3 := hid (HB.out.trans hb3)
        clear hb3 kM fM
        go_wp2_with fail
        go_ret
        exact ⟨rfl, HB3.out, k3, f3⟩
      | true =>
        have hrM : rM = M + cntB ks[k] := HI.out.2.1 rfl
        have hrM2 := HI.out.1.1 rfl
        have hM2 : 0 ≤ rM ∧ rM ≤ 20000 := by omega
        have HF : Hid (goBs (ks.drop (k + 1)) (d + 1) rM = R) := by show _ = _; rw [← HR.out, HD.out]; rfl
        have HM2 := hid hM2
        clear hrM hrM2 hM2 HI HD HR
        go_wp2_with fail
        refine HCC.out.mono ?_
        rintro e w3 ⟨rfl, hb3, k3, f3⟩
        have HB3 := hid (HB.out.trans hb3)
        have HK3 := hid k3
        have HF3 := hid f3
        clear hb3 kM fM k3 f3
        go_wp2_with fail
        go_roundw
        case rel => exact ⟨HB3.out, k + 1, rM, by omega, by go_num, HK3.out, HF3.out, HM2.out.1, HM2.out.2, HF.out⟩
        case measure => simp [intOf]; omega
    · have i0 : decide ((k : Int) < (ks.length : Int)) = false := by rw [decide_eq_false_iff_not]; omega
      have hF : R = (true, M) := by rw [← HR.out, List.drop_of_length_le hge]; rfl
      have HF := hid hF
      clear hF HR HR0 hkids
      go_wp2_with fail
      go_ret
      rw [HF.out]
      exact ⟨rfl, HB.out, kM, fM⟩
set_option maxHeartbeats 1000000 in
theorem bValid_any (b : Bx) (Ak As : Option Addr) (ck cs : Nat) (w : World) (hok : b.f.Ok) (hsrc : IntsR w (Lt w.heap.size) b.f.src (.slice As b.f.src.length cs)) (hk : BoxesS w (Lt w.heap.size) b.kids (.slice Ak b.kids.length ck)) :
    Calls Tryz.prog 58 #[.agg (boxC b.f (.slice Ak b.kids.length ck) (.slice As b.f.src.length cs))] w fun e w' => e = .returned (.bool (validB b)) ∧ Below w.heap.size w w' := by
  have hb1 : Below w.heap.size w (w.alloc (Obj.cells (boxC b.f (.slice Ak b.kids.length ck) (.slice As b.f.src.length cs)) 28)) := below_allocR _ _
  have hb2 : Below w.heap.size w ((w.alloc (Obj.cells (boxC b.f (.slice Ak b.kids.length ck) (.slice As b.f.src.length cs)) 28)).alloc (.cells #[.int .i64 0] 3)) := Below.alloc hb1 hb1.size _
  have hz : (w.alloc (Obj.cells (boxC b.f (.slice Ak b.kids.length ck) (.slice As b.f.src.length cs)) 28)).heap.size = w.heap.size + 1 := by simp
  have hat : BoxAt ((w.alloc (Obj.cells (boxC b.f (.slice Ak b.kids.length ck) (.slice As b.f.src.length cs)) 28)).alloc (.cells #[.int .i64 0] 3)) (Lt (w.heap.size + 1)) w.heap.size 0 b Ak As ck cs :=
    ⟨(Box11.new w b.f _ _ _).below (below_allocR _ _) (by rw [hz]; omega), by unfold Lt; omega, hok, hsrc.below hb2 (by omega), hk.below hb2 (by omega)⟩
  have hcnt := bvalid_any b _ (w.heap.size + 1) w.heap.size 0 (w.heap.size + 1) Ak As ck cs 1 0 hat (Nat.le_refl _) (by rw [← hz, World.cell?_alloc_new]; rfl) (by rw [← hz, World.frozen?_alloc_new]) (by omega) (by omega)
  have HC := hid hcnt
  have HB2 := hid hb2
  have HV := hid (goB_valid b)
  clear hcnt hat hb1 hb2 hz hok hsrc hk
  generalize goB b 1 0 = r at *
  generalize validB b = bv at *
  obtain ⟨f, ks⟩ := b
  obtain ⟨kind, name, size, bw, bh, bd, bx, by_, of_, src⟩ := f
  simp only [Bx.f, Bx.kids, boxC] at *
  go_enter Tryz.func58, Tryz.ntmps58
  go_wp2_with fail
  refine HC.out.mono ?_
  rintro e w1 ⟨rfl, hb, _, _⟩
  have HB3 := hid (HB2.out.trans (hb.mono (Nat.le_succ _)))
  clear hb
  go_wp2_with fail
  go_ret
  exact ⟨by rw [← HV.out]; rfl, HB3.out⟩
end Go.Proofs.YtmahiejfniaahaaGreatDoor
