/- Texts put together. -/
import Derived.Test.YthpngeboknmllaaQe06f35c01b
import Derived.Test.YthpngeboknmllaaQ8d95b9e1b9
import Derived.Test.YthpngeboknmllaaQc887edb4c0
import Derived.Test.YthpngeboknmllaaQ30b8250c09
import Derived.Test.YthpngeboknmllaaQ8255845d33
import Derived.Deep.QuietTactic
import Derived.BigQuiet
set_option linter.unusedVariables false
set_option linter.unusedSimpArgs false
set_option maxRecDepth 100000
namespace Go.Proofs.Ythpngeboknmllaa
open Go.RowKit
def zeroT:Tree:=.mk 0 ⟨#[]⟩ 0 []
theorem countsS_len (ts:List Tree):ts.length≤countsS ts:=by
 induction ts with
 | nil=>simp
 | cons u us ih=>rw [countsS,countS_kids,List.length_cons];omega
def CopiesRes (w:World) (ts:List Tree) (e:Ending) (w':World):Prop:=∃ v,e = .returned v∧OwnTrees w' w.heap.size ts v∧Below w.heap.size w w'
set_option maxHeartbeats 1000000 in
theorem deepNodes_any (ts : List Tree) (v : Value) (w : World) (hv : SliceR treeE w (Lt w.heap.size) ts v) (hc : countsS ts ≤ 1000000) :
    Calls Try.prog 32 #[v] w (CopiesRes w ts) := by
  have HV := hid hv
  have HC := hid hc
  obtain ⟨A, cap, rs, rfl, hcap, hmax, hrd, hls⟩ := hv
  have hlen : ts.length ≤ 9223372036854775807 := by unfold maxLen at hmax; omega
  have H : Hid (Reads w (Lt w.heap.size) A rs ∧ ListR treeE w (Lt w.heap.size) ts rs) := ⟨hrd, hls⟩
  clear hrd hls hc hcap hmax
  go_enter Try.func32, Try.ntmps32
  go_wp2_with fail
  go_loopw [3, 7] (fun r i wr => Below w.heap.size w wr ∧ ∃ k : Nat, k ≤ ts.length ∧ i = .int .i64 k ∧ OwnTrees wr w.heap.size (ts.take k) r) (fun _ i _ => ts.length - (intOf i).toNat)
  case atStart => exact ⟨Below.refl _ _, 0, Nat.zero_le _, rfl, OwnTrees.nil _ _⟩
  case round =>
    obtain ⟨hb, k, hk, rfl, ho⟩ := hrel
    have HB := hid hb
    have HO := hid ho
    have hz := hb.size
    clear ho hb
    by_cases hlt : k < ts.length
    · obtain ⟨g, o, A', cap', rs', rfl, hg, c0, c1, c2, c3, j0, j1, j2, hc5, hc6, hrd', hls'⟩ := trees_at (H.out.1.keep (Same.of_below HB.out (Nat.le_refl _)) (Lt.mono HB.out.size)) (H.out.2.keep (Same.of_below HB.out (Nat.le_refl _)) (Lt.mono HB.out.size)) hlt
      have HOK : Hid (NodeOk ts[k]) := ⟨j0, j1, j2⟩
      have hv' : SliceR treeE wr (Lt wr.heap.size) ts[k].kids (.slice A' ts[k].kids.length cap') := ⟨A', cap', rs', rfl, hc5, hc6, hrd', hls'⟩
      have i5 : decide ((k : Int) < (ts.length : Int)) = true := by rw [decide_eq_true_eq]; omega
      have i6 : (0 : Int) ≤ (k : Int) := by omega
      have i7 : (k : Int) < (ts.length : Int) := by omega
      have HCK : Hid (countS ts[k] ≤ 1000000 ∧ k ≤ 1000000) := by
        have h1 := countsS_take hlt
        have h2 := countsS_take_le ts (k + 1)
        have h3 := HC.out
        have h4 := countsS_len ts
        constructor <;> omega
      have HTK : Hid (ts.take (k + 1) = ts.take k ++ [ts[k]]) := List.take_succ_eq_append_getElem hlt
      clear j0 j1 j2 hc5 hc6 hrd' hls'
      go_wp2_with fail
      refine (deepNode_any ts[k] A' cap' wr hv' HOK.out HCK.out.1).mono ?_
      intro e w1 h
      obtain ⟨v1, rfl, hr1, hb1⟩ := h
      have HR1 := hid hr1
      have HB1 := hid hb1
      clear hr1 hb1 hv' c0 c1 c2 c3
      go_wp2_with first
        | (refine app_trees rfl (.tmp 10) (.tmp 16) rfl w.heap.size _ (ts.take k) [ts[k]] rfl ((HO.out.below HB1.out).below (below_allocR _ _)) _ 1 1 rfl (tree_one HOK.out HR1.out hz (fun q hq => (HO.out.own_lt q hq).2) HB1.out.size _ rfl _) (by have := HCK.out.2; simp; omega) (by have := HB1.out.size; simp; omega) ?_
           intro v' w' ho' hb'
           have HO' := hid ho'
           have HB' := hid hb'
           clear ho' hb')
      go_roundw
      case rel => exact ⟨((HB.out.trans (HB1.out.mono hz)).alloc (HB.out.trans (HB1.out.mono hz)).size _).trans HB'.out, k + 1, by omega, by go_num, by rw [HTK.out]; exact HO'.out⟩
      case measure => simp [intOf]; omega
    · obtain rfl : k = ts.length := by omega
      have i5 : decide ((ts.length : Int) < (ts.length : Int)) = false := by rw [decide_eq_false_iff_not]; omega
      go_wp2_with fail
      go_ret
      exact ⟨_, rfl, by have h := HO.out; rw [List.take_of_length_le (Nat.le_refl _)] at h; exact h, HB.out⟩
end Go.Proofs.Ythpngeboknmllaa
