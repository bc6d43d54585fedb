/- Texts put together. -/
import Derived.Test.YtbjcioknfjofkaaGreatQ033cc9f7a7
set_option linter.unusedVariables false
set_option linter.unusedSimpArgs false
namespace Go.Proofs.YtbjcioknfjofkaaGreat
open Go.RowKit
theorem repl_twice (t:Tree) (i:Nat) (a b:Tree):replS (replS t i a) i b = replS t i b:=by
 show Tree.mk _ _ _ ((t.kids.set i a).set i b) = Tree.mk _ _ _ (t.kids.set i b)
 rw [List.set_set];rfl
theorem repl_self {t:Tree} {i:Int} (h:i.toNat < t.kids.length):replS t i.toNat (kidS t i) = t:=by
 rw [kid_get h]
 obtain ⟨k,s,c,ts⟩:=t
 have h':i.toNat < ts.length:=h
 have e:ts.set i.toNat (ts[i.toNat]'h') = ts:=List.set_getElem_self h'
 exact congrArg (Tree.mk k s c) e
theorem put_put : (q : List Int) → (t : Tree) → (a b : List Tree) → (findS t q).2 = true → putS (putS t q a) q b = putS t q b
  | [], t, a, b, _ => rfl
  | [_], t, a, b, h => by simp [findS] at h
  | i :: k :: q, t, a, b, h => by
    obtain ⟨hi, hk, he⟩ := find_step t i k q h
    rw [he] at h
    rw [putS, putS, putS, replS_same hi.2, replS_same hk.2, put_put q _ a b h, repl_twice, repl_twice]
theorem put_self : (q : List Int) → (t : Tree) → (l : List Tree) → (findS t q).2 = true → (findS t q).1 = rowT l → putS t q l = t
  | [], t, l, _, h => by
    show rowT l = t
    exact h.symm
  | [_], t, l, h, _ => by simp [findS] at h
  | i :: k :: q, t, l, h, hl => by
    obtain ⟨hi, hk, he⟩ := find_step t i k q h
    rw [he] at h hl
    rw [putS, put_self q _ l h hl, repl_self hk.2, repl_self hi.2]
end Go.Proofs.YtbjcioknfjofkaaGreat
