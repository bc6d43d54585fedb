/- Texts put together. -/
import Derived.Test.YtbjcioknfjofkaaGreatQ5f8487fc8c
import Derived.Test.YtbjcioknfjofkaaGreatQbd13932ac5
import Derived.Test.YtbjcioknfjofkaaGreatQ8c13868fc1
set_option linter.unusedVariables false
set_option linter.unusedSimpArgs false
set_option maxRecDepth 100000
namespace Go.Proofs.YtbjcioknfjofkaaGreat
open Go.RowKit
set_option maxHeartbeats 8000000 in
theorem zM9 (op:OpD) (lr:Nat) (Ar An:Option Addr) (cr cn:Nat) (w:World) (hn:zAa zAb w (Lt w.heap.size) op.nodes (.slice An op.nodes.length cn)) :
  Calls Tryz.prog 54 #[.agg (opC op (.slice Ar lr cr) (.slice An op.nodes.length cn))] w (EqC w (zBp op)):=by
 have CV:Hid (∀ W,Below w.heap.size w W→Calls Tryz.prog 50 #[.slice An op.nodes.length cn] W (EqC W (zAf (rowT op.nodes)))):=fun W hW=>zJg op.nodes An cn W (hn.below hW hW.size)
 have CT:Hid (∀ W,Below w.heap.size w W→Calls Tryz.prog 88 #[.slice An op.nodes.length cn,.int .i64 op.slot] W (EqC W (zA9 op.nodes op.slot))):=fun W hW=>zKo op.nodes op.slot An cn W (hn.below hW hW.size)
 have HF:Hid (zBp op = if op.kind = 1∨op.kind = 2 then decide (0 < op.nodes.length) && (zAf (rowT op.nodes) && (decide (op.n = 0) && (decide (op.slot = 0) && (op.old.toList.isEmpty && op.text.toList.isEmpty))))
 else if op.kind = 3∨op.kind = 4 then decide (0≤op.n) && (zA9 op.nodes op.slot && (op.old.toList.isEmpty && op.text.toList.isEmpty))
 else if op.kind = 5 then (!(op.old.toList == op.text.toList)) && (decide (op.nodes.length = 0) && (decide (op.n = 0) && decide (op.slot = 0)))
 else false):=rfl
 generalize zBp op = R at *
 generalize hVS:zAf (rowT op.nodes) = bV at *
 generalize hTS:zA9 op.nodes op.slot = bT at *
 clear hn hVS hTS
 obtain ⟨kind,row,at_,n,nodes,slot,old,text⟩:=op
 simp only [opC] at *
 generalize hnl:nodes.length = len at *
 generalize hoe:old.toList.isEmpty = bO at *
 generalize hte:text.toList.isEmpty = bX at *
 generalize hbs:(old.toList == text.toList) = bS at *
 clear hnl
 have hkc:kind = 1∨kind = 2∨kind = 3∨kind = 4∨kind = 5∨(kind≠1∧kind≠2∧kind≠3∧kind≠4∧kind≠5):=by omega
 rcases hkc with rfl | rfl | rfl | rfl | rfl | ⟨j1,j2,j3,j4,j5⟩
 iterate 2
  ·have hd:((n == 0) = false∧bO = bO)∨((n == 0) = true∧(slot == 0) = false)∨((n == 0) = true∧(slot == 0) = true∧(bO = false))∨((n == 0) = true∧(slot == 0) = true∧bO = true∧bX = false)∨((n == 0) = true∧(slot == 0) = true∧bO = true∧bX = true∧len = 0)∨((n == 0) = true∧(slot == 0) = true∧bO = true∧bX = true∧0 < len):=by
    rcases Nat.eq_zero_or_pos len with h | h <;> cases (n == 0) <;> cases (slot == 0) <;> cases bO <;> cases bX <;> simp [h]
   rcases hd with ⟨i1,_⟩ | ⟨i1,i2⟩ | ⟨i1,i2,rfl⟩ | ⟨i1,i2,rfl,rfl⟩ | ⟨i1,i2,rfl,rfl,rfl⟩ | ⟨i1,i2,rfl,rfl,i5⟩
   case inr.inr.inr.inr.inr =>
    have HR:Hid (R = bV):=by { have h:=HF.out;show _ = _;simp at i1 i2;rw [h];simp [i1,i2,i5] }
    rw [HR.out]
    clear HF HR
    go_enter Tryz.func54,Tryz.ntmps54
    cases bV
    all_goals
     go_wp2_with fail
     refine (CV.out _ (blA _ _)).mono ?_
     rintro e w1 ⟨rfl,hb1⟩
     have HB1:=hid (zAq (blA _ _) hb1)
     clear hb1
     go_wp2_with fail
     go_ret
     exact ⟨rfl,HB1.out⟩
   all_goals
    have HR:Hid (R = false):=by { have h:=HF.out;clear HF CV CT;show _ = _;first | (simp_all;done) | (simp at h;rw [h,i1];simp) }
    rw [HR.out]
    clear HF HR CV CT
    try cases bO
    all_goals
     try cases bX
     all_goals
      go_enter Tryz.func54,Tryz.ntmps54
      go_wp2_with fail
      go_ret
      exact ⟨rfl,blA _ _⟩
 iterate 2
  ·have hd:(decide (0≤n) = false∧bO = bO)∨(decide (0≤n) = true∧(bO = false))∨(decide (0≤n) = true∧bO = true∧bX = false)∨(decide (0≤n) = true∧bO = true∧bX = true):=by
    cases decide (0≤n) <;> cases bO <;> cases bX <;> simp
   rcases hd with ⟨i1,_⟩ | ⟨i1,rfl⟩ | ⟨i1,rfl,rfl⟩ | ⟨i1,rfl,rfl⟩
   case inr.inr.inr =>
    have HR:Hid (R = bT):=by { have h:=HF.out;show _ = _;simp at i1;rw [h];simp [i1] }
    rw [HR.out]
    clear HF HR
    go_enter Tryz.func54,Tryz.ntmps54
    cases bT
    all_goals
     go_wp2_with fail
     refine (CT.out _ (blA _ _)).mono ?_
     rintro e w1 ⟨rfl,hb1⟩
     have HB1:=hid (zAq (blA _ _) hb1)
     clear hb1
     go_wp2_with fail
     go_ret
     exact ⟨rfl,HB1.out⟩
   all_goals
    have HR:Hid (R = false):=by { have h:=HF.out;clear HF CV CT;show _ = _;first | (simp_all;done) | (simp at h;rw [h,i1];simp) }
    rw [HR.out]
    clear HF HR CV CT
    try cases bO
    all_goals
     try cases bX
     all_goals
      go_enter Tryz.func54,Tryz.ntmps54
      go_wp2_with fail
      go_ret
      exact ⟨rfl,blA _ _⟩
 ·have hd:((n == 0) = false∧bO = bO)∨((n == 0) = true∧(slot == 0) = false)∨((n == 0) = true∧(slot == 0) = true∧((len:Int) == 0) = false)∨((n == 0) = true∧(slot == 0) = true∧((len:Int) == 0) = true):=by
   cases (n == 0) <;> cases (slot == 0) <;> cases ((len:Int) == 0) <;> simp
  rcases hd with ⟨i1,_⟩ | ⟨i1,i2⟩ | ⟨i1,i2,i3⟩ | ⟨i1,i2,i3⟩
  case inr.inr.inr =>
   have HR:Hid (R = !bS):=by { have h:=HF.out;show _ = _;simp at i1 i2 i3;rw [h];simp [i1,i2,i3] }
   rw [HR.out]
   clear HF HR CV CT
   cases bO <;> cases bX <;> cases bS
   all_goals
    go_enter Tryz.func54,Tryz.ntmps54
    go_wp2_with fail
    go_ret
    exact ⟨rfl,blA _ _⟩
  all_goals
   have HR:Hid (R = false):=by { have h:=HF.out;clear HF CV CT;show _ = _;first | (simp_all;done) | (simp at h;rw [h,i1];simp) }
   rw [HR.out]
   clear HF HR CV CT
   cases bO <;> cases bX
   all_goals
    go_enter Tryz.func54,Tryz.ntmps54
    go_wp2_with fail
    go_ret
    exact ⟨rfl,blA _ _⟩
 ·have HR:Hid (R = false):=by { have h:=HF.out;show _ = _;simpa [j1,j2,j3,j4,j5] using h }
  have j1:(kind == 1) = false:=by simpa using j1
  have j2:(kind == 2) = false:=by simpa using j2
  have j3:(kind == 3) = false:=by simpa using j3
  have j4:(kind == 4) = false:=by simpa using j4
  have j5:(kind == 5) = false:=by simpa using j5
  rw [HR.out]
  clear HF HR CV CT
  cases bO <;> cases bX
  all_goals
   go_enter Tryz.func54,Tryz.ntmps54
   go_wp2_with fail
   go_ret
   exact ⟨rfl,blA _ _⟩
end Go.Proofs.YtbjcioknfjofkaaGreat
