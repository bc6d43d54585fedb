/- posmap: the methods of place. -/
import Derived.Test.YteckkamlaibjbaaConcat
import Derived.Test.YteckkamlaibjbaaInts
set_option linter.unusedVariables false
set_option linter.unusedSimpArgs false
namespace Go.Proofs.Yteckkamlaibjbaa
open Go.RowKit

structure PlaceD where
  op : OpD
  k : Nat
  index : Int
  inside : Bool
  slot : Int
  rest : List Int

def Bd (M x : Int) : Prop := -M ≤ x ∧ x ≤ M

/-- What the arithmetic asks. -/
structure PlaceD.Ok (p : PlaceD) : Prop where
  at_ : Bd 1099511627776 p.op.at_
  n : Bd 1099511627776 p.op.n
  slot_ : Bd 1099511627776 p.op.slot
  k : p.k ≤ 1000000
  index : Bd 1152921504606846976 p.index
  slot : Bd 1152921504606846976 p.slot
  rest : ∀ x ∈ p.rest, Bd 1152921504606846976 x
  len : p.rest.length ≤ 100000
  ne : p.inside = true → 0 < p.rest.length

def behindS (p : PlaceD) (l : List Int) : List Int := if p.inside then l ++ [p.slot] ++ p.rest else l

theorem bd_in64 {x : Int} (h : Bd 1152921504606846976 x) : In64 x := by unfold Bd at h; unfold In64; omega

/-- Three slices in a literal. -/
theorem rows3 {w w' : World} {S : Nat → Prop} {a b c : List Int} {va vb vc : Value} (ha : IntsR w S a va) (hb : IntsR w S b vb) (hc : IntsR w S c vc) (e : TypeId) (he : w' = w.alloc (.cells #[va, vb, vc] e)) (hS : ∀ k, S k → k < w.heap.size) (g : Nat) (hg : g = w.heap.size) :
    SliceR (sliceE intE) w' (Lt w'.heap.size) [a, b, c] (.slice (some ⟨g, 0, none⟩) 3 3) := by
  subst he hg
  have hk : Same S w (w.alloc (.cells #[va, vb, vc] e)) := fun p hp => World.cell?_alloc_lt w _ p (hS _ hp)
  have hm : ∀ k, S k → Lt (w.alloc (.cells #[va, vb, vc] e)).heap.size k := fun k h => by have := hS k h; unfold Lt; simp; omega
  refine ⟨_, _, [va, vb, vc], rfl, Nat.le_refl _, by simp [maxLen], fun _ => ⟨w.heap.size, 0, rfl, by unfold Lt; simp, fun j u hu => ?_⟩, ?_⟩
  · rw [Nat.zero_add, World.cell?_alloc_new]; simpa using hu
  · exact ⟨[va], _, rfl, ⟨va, rfl, ha.keep hk hm⟩, [vb], _, rfl, ⟨vb, rfl, hb.keep hk hm⟩, [vc], _, rfl, ⟨vc, rfl, hc.keep hk hm⟩, rfl⟩
theorem rows2 {w w' : World} {S : Nat → Prop} {a b : List Int} {va vb : Value} (ha : IntsR w S a va) (hb : IntsR w S b vb) (e : TypeId) (he : w' = w.alloc (.cells #[va, vb] e)) (hS : ∀ k, S k → k < w.heap.size) (g : Nat) (hg : g = w.heap.size) :
    SliceR (sliceE intE) w' (Lt w'.heap.size) [a, b] (.slice (some ⟨g, 0, none⟩) 2 2) := by
  subst he hg
  have hk : Same S w (w.alloc (.cells #[va, vb] e)) := fun p hp => World.cell?_alloc_lt w _ p (hS _ hp)
  have hm : ∀ k, S k → Lt (w.alloc (.cells #[va, vb] e)).heap.size k := fun k h => by have := hS k h; unfold Lt; simp; omega
  refine ⟨_, _, [va, vb], rfl, Nat.le_refl _, by simp [maxLen], fun _ => ⟨w.heap.size, 0, rfl, by unfold Lt; simp, fun j u hu => ?_⟩, ?_⟩
  · rw [Nat.zero_add, World.cell?_alloc_new]; simpa using hu
  · exact ⟨[va], _, rfl, ⟨va, rfl, ha.keep hk hm⟩, [vb], _, rfl, ⟨vb, rfl, hb.keep hk hm⟩, rfl⟩

theorem lt_alloc (w : World) (o : Obj) : ∀ k, Lt w.heap.size k → Lt (w.alloc o).heap.size k := fun k h => by unfold Lt at *; simp; omega
theorem SliceR.alloc {α : Type} {E : Enc α} {w : World} {xs : List α} {v : Value} (h : SliceR E w (Lt w.heap.size) xs v) (o : Obj) : SliceR E (w.alloc o) (Lt (w.alloc o).heap.size) xs v :=
  h.keep (fun p hp => World.cell?_alloc_lt w o p hp) (lt_alloc w o)
theorem below_alloc (w : World) (o : Obj) : Below w.heap.size w (w.alloc o) := (Below.refl _ _).alloc (Nat.le_refl _) _

abbrev placeC (p : PlaceD) (vr vn vs : Value) : Array Value :=
  #[.int .i64 p.op.kind, vr, .int .i64 p.op.at_, .int .i64 p.op.n, vn, .int .i64 p.op.slot, .string p.op.old, .string p.op.text, .int .i64 p.k, .int .i64 p.index, .bool p.inside, .int .i64 p.slot, vs]

set_option maxHeartbeats 1000000 in
theorem behind_any (p : PlaceD) (l : List Int) (Ar An As Al : Option Addr) (lr cr ln cn cs cl : Nat) (w : World) (hp : p.Ok) (hs : IntsR w (Lt w.heap.size) p.rest (.slice As p.rest.length cs))
    (hl : IntsR w (Lt w.heap.size) l (.slice Al l.length cl)) (hll : l.length ≤ 1000) :
    Calls Try.prog 62 #[.agg (placeC p (.slice Ar lr cr) (.slice An ln cn) (.slice As p.rest.length cs)), .slice Al l.length cl] w (IntsPost w (behindS p l)) := by
  obtain ⟨hat, hn, hslot, hk, hidx, hsl, hrest, hrlen, hne⟩ := hp
  obtain ⟨⟨kind, row, at_, n, nodes, oslot, old, text⟩, k, index, inside, slot, rest⟩ := p
  simp only [placeC] at *
  obtain ⟨o1, ho1⟩ : ∃ o, o = Obj.cells #[.int .i64 kind, .slice Ar lr cr, .int .i64 at_, .int .i64 n, .slice An ln cn, .int .i64 oslot, .string old, .string text, .int .i64 k, .int .i64 index, .bool inside, .int .i64 slot, .slice As rest.length cs] 65 := ⟨_, rfl⟩
  cases inside with
  | false =>
    have HL := hid (hl.alloc o1)
    subst ho1
    clear hl
    go_enter Try.func62, Try.ntmps62
    go_wp2
    go_ret
    exact ⟨_, rfl, HL.out, below_alloc _ _⟩
  | true =>
    have HL := hid ((hl.alloc o1).alloc (.cells #[.int .i64 slot] 3))
    have HS := hid ((hs.alloc o1).alloc (.cells #[.int .i64 slot] 3))
    have HM := hid (ints_lit (w.alloc o1) [slot] (by simpa using bd_in64 hsl) (S := Lt ((w.alloc o1).alloc (.cells #[.int .i64 slot] 3)).heap.size) (by unfold Lt; simp) #[.int .i64 slot] 1 rfl rfl (by simp [maxLen]) 3 (w.heap.size + 1) (by simp))
    have HC := hid (rows3 HL.out HM.out HS.out 25 rfl (fun _ h => h) (w.heap.size + 1 + 1) (by simp))
    have HF : Hid ([l, [slot], rest].flatten.length ≤ 1000000) := by show _ ≤ _; simp; omega
    have HB : Hid (Below w.heap.size w (((w.alloc o1).alloc (.cells #[.int .i64 slot] 3)).alloc (.cells #[.slice Al l.length cl, .slice (some ⟨w.heap.size + 1, 0, none⟩) 1 1, .slice As rest.length cs] 25))) :=
      (((below_alloc _ _).trans ((below_alloc _ _).mono (by simp))).trans ((below_alloc _ _).mono (by simp; omega)))
    subst ho1
    clear hl hs
    go_enter Try.func62, Try.ntmps62
    go_wp2_with fail
    with_reducible refine (concat_any _ _ _ HC.out HF.out).mono ?_
    rintro e w1 ⟨v1, rfl, hown1, hb1⟩
    have HO := hid hown1
    have HB1 := hid hb1
    clear hown1 hb1
    go_wp2_with fail
    go_ret
    exact ⟨_, rfl, by have h := HO.out.ints (S := Lt w1.heap.size) (fun _ _ h => h); simpa [behindS] using h, HB.out.trans (HB1.out.mono HB.out.size)⟩

/-- behind at a literal, in whatever world came of w. -/
theorem behind_lit (p : PlaceD) (Ar An As : Option Addr) (lr cr ln cn cs : Nat) (w W0 : World) (hp : p.Ok) (hs : IntsR w (Lt w.heap.size) p.rest (.slice As p.rest.length cs)) (hb0 : Below w.heap.size w W0)
    (xs : List Int) (hxs : ∀ x ∈ xs, In64 x) (hl : xs.length ≤ 1000) (n g : Nat) (hn : n = xs.length) (hg : g = W0.heap.size) (arr : Array Value) (harr : arr = (xs.map (Value.int .i64 ·)).toArray) :
    Calls Try.prog 62 #[.agg (placeC p (.slice Ar lr cr) (.slice An ln cn) (.slice As p.rest.length cs)), .slice (some ⟨g, 0, none⟩) n n] (W0.alloc (.cells arr 3)) (IntsPost w (behindS p xs)) := by
  subst hn
  have h1 : Below w.heap.size w (W0.alloc (.cells arr 3)) := hb0.trans ((below_alloc _ _).mono hb0.size)
  refine (behind_any p xs Ar An As (some ⟨g, 0, none⟩) lr cr ln cn cs xs.length _ hp (hs.below h1 h1.size) (ints_lit W0 xs hxs (by unfold Lt; simp) arr _ harr rfl (by unfold maxLen; omega) _ g hg) hl).mono ?_
  rintro e w' ⟨v, he, hv, hb⟩
  exact ⟨v, he, hv, h1.trans (hb.mono h1.size)⟩

theorem below_draw {B : Nat} {w w' : World} (h : Below B w w') (n : Nat) : Below B w (w'.drewN n) := h.trans (Below.mono ⟨rfl, rfl, rfl, Nat.le_refl _, fun _ _ => rfl⟩ (Nat.le_refl _))

end Go.Proofs.Yteckkamlaibjbaa
