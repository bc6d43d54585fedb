/- Texts put together. -/
import Derived.Test.YtbjcioknfjofkaaGreatQ8109803152
import Derived.Test.YtbjcioknfjofkaaGreatQ3904fb5c65
set_option linter.unusedVariables false
set_option linter.unusedSimpArgs false
set_option maxRecDepth 100000
namespace Go.Proofs.YtbjcioknfjofkaaGreat
open Go.RowKit
def goS:Tree→List OpD→Tree × Int
 | t,[]=>(t,0)
 | t,op :: ops=>if (applyS t op).2≠0 then (zeroT,(applyS t op).2) else goS (applyS t op).1 ops
def applyAllS (t:Tree) (ops:List OpD):Tree × Int:=if validS t = false then (zeroT,1) else goS t ops
def ApplyAllP (w:World) (r:Tree × Int) (e:Ending) (w':World):Prop :=
 ∃ v i,e = .returned (.tuple #[.agg #[.int .i64 r.1.kind,.string r.1.text,.int .i64 r.1.cols,v],.int .i64 i,.int .i64 r.2])∧SliceR treeE w' (Lt w'.heap.size) r.1.kids v∧Below w.heap.size w w'
theorem apply_good {t:Tree} {op:OpD} (hok:NodeOk t) (h:(applyS t op).2 = 0):validS (applyS t op).1 = true∧NodeOk (applyS t op).1:=by
 unfold applyS at h ⊢
 split at h
 ·simp at h
 rename_i h1
 rw [if_neg h1]
 split at h
 ·simp at h
 rename_i h2
 rw [if_neg h2]
 split at h
 ·rename_i h3;exact absurd h h3
 rename_i h3
 rw [if_neg h3]
 split at h
 ·rename_i h4;exact absurd h h4
 rename_i h4
 rw [if_neg h4]
 split at h
 ·simp at h
 rename_i h5
 rw [if_neg h5]
 exact ⟨by simpa using h5,putS_ok t op.row _ hok⟩
theorem op_text {w:World} {S:Nat→Prop} {ops:List OpD} {cs:List Value} (h4:ListR opE w S ops cs) {k:Nat} (hk:k < ops.length):ops[k].text.size≤maxLen:=by
 obtain ⟨c,_,hR,_⟩:=h4.at_ hk
 obtain ⟨vr,vn,rfl,h1,h2,h3',h4',h5,h6,h7,h8⟩:=hR
 exact h6
end Go.Proofs.YtbjcioknfjofkaaGreat
