/- Behind a call of ref40.row. Written by wip/genrpl.py. -/
import Derived.Test.YtmahiejfniaahaaGreatDoorRow40v
import Derived.Test.YtmahiejfniaahaaGreatDoorHD
import Derived.Test.YtmahiejfniaahaaGreatDoorR28cv
import Derived.Test.YtmahiejfniaahaaGreatDoorHI
set_option linter.unusedVariables false
set_option linter.unusedSimpArgs false
set_option maxRecDepth 100000
namespace Go.Proofs.YtmahiejfniaahaaGreatDoor
open Go.RowKit


/-- Behind a call of row: its caret in a new block, and whether there is one. -/
def PlcCut (X : World) (o : Option CarD) (p v : Value) (wx : World) : Prop := ∃ g A c d, p = .pointer (some ⟨g, 0, none⟩) ∧ v = .bool o.isSome ∧ (∀ d', o = some d' → d = d') ∧ RowC X wx g A c d.pos.length d.x d.top d.bottom d.pos
theorem PlcCut.late {X w5 : World} {d : CarD} {A : Option Addr} {c : Nat} (T : TypeId) (hi : IntsR w5 (fun k => X.heap.size ≤ k ∧ k < w5.heap.size) d.pos (.slice A d.pos.length c)) (hb : Below X.heap.size X w5) (g : Nat) (hg : g = w5.heap.size) (o : Option CarD) (ho : ∀ d', o = some d' → d = d') (b : Bool) (hob : b = o.isSome) :
    PlcCut X o (.pointer (some ⟨g, 0, none⟩)) (.bool b) (w5.alloc (.cells #[.slice A d.pos.length c, .int .i64 d.x, .int .i64 d.top, .int .i64 d.bottom] T)) := by
  subst hg hob
  refine ⟨_, A, c, d, rfl, rfl, ho, BoxL.new _ _ _ _ rfl _ rfl, FreeB.new _ _ _ _ rfl, hi.keep (fun p hp => (bNew _ _).cell hp.2) (fun k hk => ⟨hk.1, by simp; omega, by omega⟩), bAl hb _, hb.size, by simp⟩
theorem PlcCut.early {X w5 W' : World} {d : CarD} {A : Option Addr} {c : Nat} {T : TypeId} (hz : HasObj w5 X.heap.size (.cells #[.slice none 0 0, .int .i64 0, .int .i64 0, .int .i64 0] T)) (hi : IntsR w5 (fun k => X.heap.size < k ∧ k < w5.heap.size) d.pos (.slice A d.pos.length c)) (hb : Below X.heap.size X w5) (o : Option CarD) (ho : ∀ d', o = some d' → d = d') (b : Bool) (hob : b = o.isSome)
    (hW : W' = (((w5.setCell ⟨X.heap.size, 0, none⟩ (.slice A d.pos.length c)).setCell ⟨X.heap.size, 1, none⟩ (.int .i64 d.x)).setCell ⟨X.heap.size, 2, none⟩ (.int .i64 d.top)).setCell ⟨X.heap.size, 3, none⟩ (.int .i64 d.bottom)) :
    PlcCut X o (.pointer (some ⟨X.heap.size, 0, none⟩)) (.bool b) W' := by
  have hs := setL [.slice A d.pos.length c, .int .i64 d.x, .int .i64 d.top, .int .i64 d.bottom] w5 X.heap.size 0 (fun j hj => hz.cells.1.has j (by simpa using hj))
  rw [show setCells w5 X.heap.size 0 [.slice A d.pos.length c, .int .i64 d.x, .int .i64 d.top, .int .i64 d.bottom] = W' from hW.symm] at hs
  subst hob
  exact ⟨_, A, c, d, rfl, rfl, ho, hs.at_, fun j => (hs.frozen _).trans (hz.cells.2 j), hi.keep (fun p hp => hs.other p (Nat.ne_of_gt hp.1)) (fun k hk => ⟨Nat.le_of_lt hk.1, by rw [hs.size]; exact hk.2, Nat.ne_of_gt hk.1⟩), hs.below _ _ (Nat.le_refl _) hb, Nat.le_refl _, by rw [hs.size]; exact hz.lt⟩
end Go.Proofs.YtmahiejfniaahaaGreatDoor
