/- Texts put together. -/
import Derived.Test.YthpngeboknmllaaQcd7bfcaf5c
import Derived.Test.YthpngeboknmllaaQa9988dc4fc
import Derived.Shelf.Abstract
set_option linter.unusedVariables false
set_option linter.unusedSimpArgs false
set_option maxRecDepth 100000
namespace Go.Proofs.Ythpngeboknmllaa
open Go.RowKit Go.Shelf
def Cells (w:World) (B:Nat):Prop :=
 (w.cell? ⟨B,4,none⟩ = some (.int .i64 0)∧w.cell? ⟨B,5,none⟩ = some (.func (.func 50) #[] #[])) ∧
 (w.cell? ⟨B,7,none⟩ = some (.int .i64 0)∧w.cell? ⟨B,8,none⟩ = some (.func (.func 16) #[] #[])) ∧
 (w.cell? ⟨B,10,none⟩ = some (.int .i64 0)∧w.cell? ⟨B,11,none⟩ = some (.func (.func 51) #[] #[])) ∧
 (w.cell? ⟨B,13,none⟩ = some (.int .i64 0)∧w.cell? ⟨B,14,none⟩ = some (.func (.func 52) #[] #[])) ∧
 (w.cell? ⟨B,16,none⟩ = some (.int .i64 2)∧w.cell? ⟨B,17,none⟩ = some (.func (.func 50) #[] #[])) ∧
 (w.cell? ⟨B,19,none⟩ = some (.int .i64 2)∧w.cell? ⟨B,20,none⟩ = some (.func (.func 50) #[] #[])) ∧
 (w.cell? ⟨B,22,none⟩ = some (.int .i64 2)∧w.cell? ⟨B,23,none⟩ = some (.func (.func 50) #[] #[])) ∧
 (w.cell? ⟨B,25,none⟩ = some (.int .i64 2)∧w.cell? ⟨B,26,none⟩ = some (.func (.func 50) #[] #[])) ∧
 (w.cell? ⟨B,28,none⟩ = some (.int .i64 3)∧w.cell? ⟨B,29,none⟩ = some (.func (.func 50) #[] #[])) ∧
 (w.cell? ⟨B,31,none⟩ = some (.int .i64 1)∧w.cell? ⟨B,32,none⟩ = some (.func (.func 28) #[] #[])) ∧
 (w.cell? ⟨B,34,none⟩ = some (.int .i64 1)∧w.cell? ⟨B,35,none⟩ = some (.func (.func 53) #[] #[])) ∧
 (w.cell? ⟨B,37,none⟩ = some (.int .i64 0)∧w.cell? ⟨B,38,none⟩ = some (.func (.func 50) #[] #[]))
theorem same_dn {P:Program} {f:FuncId} {args:Array Value} {W:World} {v:Value} (h:Calls P f args W fun e w'=>e = .returned v∧W = w'):Calls P f args W fun e w'=>e = .returned v∧∃ n,w' = W.drewN n :=
 h.mono fun e w' ⟨h1,h2⟩=>⟨h1,0,by subst h2;rfl⟩
theorem kidsS_out (k c:Int) (n:Nat) (h:k < 1∨12 < k):kidsS k c n = false:=by
 unfold kidsS
 rw [if_neg (by omega)]
 split
 ·rfl
 ·rw [if_neg (by omega),if_neg (by omega),if_neg (by omega),if_neg (by omega),if_neg (by omega)]
set_option maxHeartbeats 4000000 in
theorem own_any (k c:Int) (s:ByteArray) (A:Option Addr) (n cap B g o:Nat) (w:World) (hn:n≤maxLen) (hs:s.size≤maxLen)
  (c0:w.cell? ⟨g,o,none⟩ = some (.int .i64 k)) (c1:w.cell? ⟨g,o + 1,none⟩ = some (.string s)) (c2:w.cell? ⟨g,o + 2,none⟩ = some (.int .i64 c)) (c3:w.cell? ⟨g,o + 3,none⟩ = some (.slice A n cap))
  (hK:Cells w B) :
  Calls Try.prog 54 #[.pointer (some ⟨B,0,none⟩),.pointer (some ⟨g,o,none⟩)] w fun e w'=>e = .returned (.bool (textS k s && kidsS k c n))∧∃ n,w' = w.drewN n:=by
 by_cases h1:k < 1
 ·rw [kidsS_out k c n (.inl h1),Bool.and_false]
  have d1:decide (k < 1) = true:=decide_eq_true h1
  clear hK
  go_enter Try.func54,Try.ntmps54
  go_wp2_with fail
  go_quiet (fail)
  go_wp2_with fail
  go_ret
  exact ⟨rfl,_,rfl⟩
 by_cases h2:12 < k
 ·rw [kidsS_out k c n (.inr h2),Bool.and_false]
  have d1:decide (k < 1) = false:=decide_eq_false h1
  have d2:decide (12 < k) = true:=decide_eq_true h2
  clear hK
  go_enter Try.func54,Try.ntmps54
  go_wp2_with fail
  go_quiet (fail)
  go_wp2_with fail
  go_ret
  exact ⟨rfl,_,rfl⟩
 have hk:k = 1∨k = 2∨k = 3∨k = 4∨k = 5∨k = 6∨k = 7∨k = 8∨k = 9∨k = 10∨k = 11∨k = 12:=by omega
 obtain ⟨⟨a1,b1⟩,⟨a2,b2⟩,⟨a3,b3⟩,⟨a4,b4⟩,⟨a5,b5⟩,⟨a6,b6⟩,⟨a7,b7⟩,⟨a8,b8⟩,⟨a9,b9⟩,⟨a10,b10⟩,⟨a11,b11⟩,⟨a12,b12⟩⟩:=hK
 rcases hk with rfl | rfl | rfl | rfl | rfl | rfl | rfl | rfl | rfl | rfl | rfl | rfl
 ·exact own_1 c s A n cap B g o (textS 1 s) w hn c0 c1 c2 c3 a1 b1 (hid fun W=>same_dn (empty_q s W))
 ·exact own_gen 2 16 0 (by show _∧_;omega) (hid fun n=>by unfold kidsS;simp) (enters_of Try.func16 (by kernel_rfl) rfl) (by decide) (by decide) (by decide) (by decide) (by decide) (by decide) (by decide) c s A n cap B g o (textS 2 s) w hn c0 c1 c2 c3 a2 b2 (hid fun W=>same_dn (nSymbol_q s W hs))
 ·exact own_gen 3 51 0 (by show _∧_;omega) (hid fun n=>by unfold kidsS;simp) (enters_of Try.func51 (by kernel_rfl) rfl) (by decide) (by decide) (by decide) (by decide) (by decide) (by decide) (by decide) c s A n cap B g o (textS 3 s) w hn c0 c1 c2 c3 a3 b3 (hid fun W=>nNumber_q s W hs)
 ·exact own_gen 4 52 0 (by show _∧_;omega) (hid fun n=>by unfold kidsS;simp) (enters_of Try.func52 (by kernel_rfl) rfl) (by decide) (by decide) (by decide) (by decide) (by decide) (by decide) (by decide) c s A n cap B g o (textS 4 s) w hn c0 c1 c2 c3 a4 b4 (hid fun W=>same_dn (plain_q s W hs))
 ·exact own_gen 5 50 2 (by show _∧_;omega) (hid fun n=>by unfold kidsS;simp) (enters_of Try.func50 (by kernel_rfl) rfl) (by decide) (by decide) (by decide) (by decide) (by decide) (by decide) (by decide) c s A n cap B g o (textS 5 s) w hn c0 c1 c2 c3 a5 b5 (hid fun W=>same_dn (empty_q s W))
 ·exact own_gen 6 50 2 (by show _∧_;omega) (hid fun n=>by unfold kidsS;simp) (enters_of Try.func50 (by kernel_rfl) rfl) (by decide) (by decide) (by decide) (by decide) (by decide) (by decide) (by decide) c s A n cap B g o (textS 6 s) w hn c0 c1 c2 c3 a6 b6 (hid fun W=>same_dn (empty_q s W))
 ·exact own_gen 7 50 2 (by show _∧_;omega) (hid fun n=>by unfold kidsS;simp) (enters_of Try.func50 (by kernel_rfl) rfl) (by decide) (by decide) (by decide) (by decide) (by decide) (by decide) (by decide) c s A n cap B g o (textS 7 s) w hn c0 c1 c2 c3 a7 b7 (hid fun W=>same_dn (empty_q s W))
 ·exact own_gen 8 50 2 (by show _∧_;omega) (hid fun n=>by unfold kidsS;simp) (enters_of Try.func50 (by kernel_rfl) rfl) (by decide) (by decide) (by decide) (by decide) (by decide) (by decide) (by decide) c s A n cap B g o (textS 8 s) w hn c0 c1 c2 c3 a8 b8 (hid fun W=>same_dn (empty_q s W))
 ·exact own_gen 9 50 3 (by show _∧_;omega) (hid fun n=>by unfold kidsS;simp) (enters_of Try.func50 (by kernel_rfl) rfl) (by decide) (by decide) (by decide) (by decide) (by decide) (by decide) (by decide) c s A n cap B g o (textS 9 s) w hn c0 c1 c2 c3 a9 b9 (hid fun W=>same_dn (empty_q s W))
 ·exact own_gen 10 28 1 (by show _∧_;omega) (hid fun n=>by unfold kidsS;simp) (enters_of Try.func28 (by kernel_rfl) rfl) (by decide) (by decide) (by decide) (by decide) (by decide) (by decide) (by decide) c s A n cap B g o (textS 10 s) w hn c0 c1 c2 c3 a10 b10 (hid fun W=>same_dn (accent_q s W))
 ·exact own_gen 11 53 1 (by show _∧_;omega) (hid fun n=>by unfold kidsS;simp) (enters_of Try.func53 (by kernel_rfl) rfl) (by decide) (by decide) (by decide) (by decide) (by decide) (by decide) (by decide) c s A n cap B g o (textS 11 s) w hn c0 c1 c2 c3 a11 b11 (hid fun W=>same_dn (fence_q s W hs))
 ·exact own_12 c s A n cap B g o (textS 12 s) w hn c0 c1 c2 c3 a12 b12 (hid fun W=>same_dn (empty_q s W))
end Go.Proofs.Ythpngeboknmllaa
