/- Texts put together: Text, Text2, Text3, Node1. -/
import Derived.Test.YtmahiejfniaahaaDoorGA
import Derived.Deep.QuietTactic
import Derived.BigQuiet
import Derived.Deep.RegionHeld3
/- ref09: bytes and texts: Letter, Digit, has, Character, In, Keywords, Accents, Printable, Number, Symbol. -/
set_option linter.unusedVariables false
set_option linter.unusedSimpArgs false
namespace Go.Proofs.YtmahiejfniaahaaDoor
open Go.RowKit

def letterS (c : Int) : Bool := decide (97 ≤ c ∧ c ≤ 122) || decide (65 ≤ c ∧ c ≤ 90)
def digitS (c : Int) : Bool := decide (48 ≤ c ∧ c ≤ 57)

def hasS (l : List Int) (c : Int) : Bool := l.any (· == c)

def signsB : ByteArray := ⟨#[43, 45, 42, 47, 61, 60, 62, 44, 59, 58, 33, 124, 39, 63, 126, 64]⟩
def characterS (c : Int) : Bool := letterS c || hasS (bytes signsB) c

end Go.Proofs.YtmahiejfniaahaaDoor
/- ref09: In, Keywords, Accents, Number, Symbol. -/
set_option linter.unusedVariables false
set_option linter.unusedSimpArgs false
namespace Go.Proofs.YtmahiejfniaahaaDoor
open Go.RowKit

def strE : Enc ByteArray where
  size := 1
  R _ _ s cs := cs = [.string s] ∧ s.size ≤ maxLen
  pos := by omega
  len := by rintro _ _ _ _ ⟨rfl, _⟩; rfl
  one := by rintro _ _ _ _ ⟨rfl, _⟩; simp [Value.oneCell']
  keep := fun h _ _ => h

theorem strs_at {w : World} {S : Nat → Prop} {xs : List ByteArray} {A : Option Addr} {cs : List Value} (h3 : Reads w S A cs) (h4 : ListR strE w S xs cs) {k : Nat} (hk : k < xs.length) :
    ∃ g o, A = some ⟨g, o, none⟩ ∧ S g ∧ w.cell? ⟨g, o + k, none⟩ = some (.string xs[k]) := by
  obtain ⟨g, o, c, e, hb, ⟨rfl, hi⟩, hc⟩ := slice_at h3 h4 hk
  exact ⟨g, o, e, hb, by simpa [strE] using hc 0 _ rfl⟩

def inS (l : List ByteArray) (s : ByteArray) : Bool := l.any fun x => x.toList == s.toList
theorem inS_drop {l : List ByteArray} {k : Nat} (h : k < l.length) (s : ByteArray) : inS (l.drop k) s = ((l[k].toList == s.toList) || inS (l.drop (k + 1)) s) := by
  rw [List.drop_eq_getElem_cons h]; rfl

def keywordsL : List ByteArray := [⟨#[102, 114, 97, 99]⟩, ⟨#[114, 111, 111, 116]⟩, ⟨#[109, 97, 116, 114, 105, 120]⟩, ⟨#[102, 101, 110, 99, 101]⟩]
def accentsL : List ByteArray := [⟨#[104, 97, 116]⟩, ⟨#[98, 97, 114]⟩, ⟨#[118, 101, 99]⟩, ⟨#[100, 111, 116]⟩, ⟨#[116, 105, 108, 100, 101]⟩, ⟨#[99, 104, 101, 99, 107]⟩]

def StrsPost (w : World) (l : List ByteArray) (e : Ending) (w' : World) : Prop := ∃ A c, e = .returned (.slice A l.length c) ∧ SliceR strE w' (Lt w'.heap.size) l (.slice A l.length c) ∧ Below w.heap.size w w'

theorem strs_lit (w : World) (l : List ByteArray) (hl : ∀ s ∈ l, s.size ≤ maxLen) (hn : l.length ≤ maxLen) (e : TypeId) (arr : Array Value) (harr : arr = (l.map Value.string).toArray) :
    SliceR strE (w.alloc (.cells arr e)) (Lt (w.alloc (.cells arr e)).heap.size) l (.slice (some ⟨w.heap.size, 0, none⟩) l.length l.length) := by
  subst harr
  refine ⟨_, _, l.map Value.string, rfl, Nat.le_refl _, hn, fun _ => ⟨w.heap.size, 0, rfl, by unfold Lt; simp, fun j u hu => ?_⟩, ?_⟩
  · rw [Nat.zero_add, World.cell?_alloc_new]; simpa using hu
  · clear hn
    induction l with
    | nil => rfl
    | cons s l ih => exact ⟨[.string s], _, rfl, ⟨rfl, hl s (by simp)⟩, by
        have := ih (fun s hs => hl s (by simp [hs]))
        have key : ∀ (W W' : World) (S S' : Nat → Prop) (xs : List ByteArray) (cs : List Value), ListR strE W S xs cs → ListR strE W' S' xs cs := by
          intro W W' S S' xs
          induction xs with
          | nil => intro cs h; exact h
          | cons x xs ih2 => rintro cs ⟨h, r, e1, e2, e3⟩; exact ⟨h, r, e1, e2, ih2 r e3⟩
        exact key _ _ _ _ _ _ this⟩

end Go.Proofs.YtmahiejfniaahaaDoor
/- ref09: Number, Symbol. -/
set_option linter.unusedVariables false
set_option linter.unusedSimpArgs false
namespace Go.Proofs.YtmahiejfniaahaaDoor
open Go.RowKit

def numGo (n : Nat) : List Int → Nat → Nat → Option Nat
  | [], _, p => some p
  | c :: l, k, p => if c = 46 ∧ 0 < k ∧ k + 1 < n then numGo n l (k + 1) (p + 1) else if digitS c = true then numGo n l (k + 1) p else none
def numberS (s : ByteArray) : Bool :=
  match numGo s.size (bytes s) 0 0 with
  | some p => decide (0 < s.size ∧ s.size ≤ 20 ∧ p ≤ 1)
  | none => false

def symbolS (s : ByteArray) : Bool :=
  if s.size = 1 then characterS ((bytes s).headD 0)
  else ((bytes s).all letterS && decide (2 ≤ s.size) && decide (s.size ≤ 16) && !inS keywordsL s && !inS accentsL s)

theorem allL_drop (s : ByteArray) (k : Nat) (h : k < s.size) : ((bytes s).drop k).all letterS = (letterS (s[k].toNat : Int) && ((bytes s).drop (k + 1)).all letterS) := by
  rw [bytes_drop s k h]; rfl

end Go.Proofs.YtmahiejfniaahaaDoor
/- ref09: text. -/
set_option linter.unusedVariables false
set_option linter.unusedSimpArgs false
namespace Go.Proofs.YtmahiejfniaahaaDoor
open Go.RowKit

def delimsB : ByteArray := ⟨#[40, 41, 91, 93, 123, 125, 124, 60, 62, 47, 46]⟩
def textS (k : Int) (s : ByteArray) : Bool :=
  if k = 2 then symbolS s else if k = 3 then numberS s else if k = 4 then (decide (s.size ≤ 200) && printableS (bytes s))
  else if k = 10 then inS accentsL s
  else if k = 11 then (decide (s.size = 2) && hasS (bytes delimsB) ((bytes s).getD 0 0) && hasS (bytes delimsB) ((bytes s).getD 1 0))
  else s.toList.isEmpty

theorem bytes_getD (s : ByteArray) (k : Nat) (h : k < s.size) : (bytes s).getD k 0 = (s[k].toNat : Int) := by
  rw [List.getD_eq_getElem?_getD, List.getElem?_eq_getElem (by rw [bytes_len]; exact h), bytes_get s k h]; rfl
theorem below_new (w : World) (o : Obj) : Below w.heap.size w (w.alloc o) := (Below.refl _ _).alloc (Nat.le_refl _) _

end Go.Proofs.YtmahiejfniaahaaDoor
