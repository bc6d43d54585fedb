/- Texts put together. -/
import Derived.Test.YtbjcioknfjofkaaGreatQ0a2d1212ff
import Derived.Test.YtbjcioknfjofkaaGreatQ87d3108caf
import Derived.Test.YtbjcioknfjofkaaGreatQda9b1f864b
set_option linter.unusedVariables false
set_option linter.unusedSimpArgs false
set_option maxRecDepth 100000
namespace Go.Proofs.YtbjcioknfjofkaaGreat
open Go.RowKit
def zBp (op:OpD):Bool :=
 if op.kind = 1∨op.kind = 2 then decide (0 < op.nodes.length) && (zAf (rowT op.nodes) && (decide (op.n = 0) && (decide (op.slot = 0) && (op.old.toList.isEmpty && op.text.toList.isEmpty))))
 else if op.kind = 3∨op.kind = 4 then decide (0≤op.n) && (zA9 op.nodes op.slot && (op.old.toList.isEmpty && op.text.toList.isEmpty))
 else if op.kind = 5 then (!(op.old.toList == op.text.toList)) && (decide (op.nodes.length = 0) && (decide (op.n = 0) && decide (op.slot = 0)))
 else false
set_option maxHeartbeats 8000000 in
theorem zOv (op:OpD) (lr:Nat) (Ar An:Option Addr) (cr cn:Nat) (w:World) (hn:zAa zAb w (Lt w.heap.size) op.nodes (.slice An op.nodes.length cn)) (hct:zAd op.nodes≤1000000) :
  Calls Tryz.prog 78 #[.agg (opC op (.slice Ar lr cr) (.slice An op.nodes.length cn))] w fun e w'=>e = .returned (.bool (zBp op))∧Below w.heap.size w w':=by
 have CV:Hid (∀ W,Below w.heap.size w W→Calls Tryz.prog 112 #[.slice An op.nodes.length cn] W fun e w'=>e = .returned (.bool (zAf (rowT op.nodes)))∧Below W.heap.size W w'):=fun W hW=>zFi op.nodes An cn W (hn.below hW hW.size) (by omega)
 have CT:Hid (∀ W,Below w.heap.size w W→Calls Tryz.prog 113 #[.slice An op.nodes.length cn,.int .i64 op.slot] W fun e w'=>e = .returned (.bool (zA9 op.nodes op.slot))∧Below W.heap.size W w'):=fun W hW=>zKw op.nodes op.slot An cn W (hn.below hW hW.size) hct
 have HF:Hid (zBp op = if op.kind = 1∨op.kind = 2 then decide (0 < op.nodes.length) && (zAf (rowT op.nodes) && (decide (op.n = 0) && (decide (op.slot = 0) && (op.old.toList.isEmpty && op.text.toList.isEmpty))))
 else if op.kind = 3∨op.kind = 4 then decide (0≤op.n) && (zA9 op.nodes op.slot && (op.old.toList.isEmpty && op.text.toList.isEmpty))
 else if op.kind = 5 then (!(op.old.toList == op.text.toList)) && (decide (op.nodes.length = 0) && (decide (op.n = 0) && decide (op.slot = 0)))
 else false):=rfl
 generalize zBp op = R at *
 generalize hVS:zAf (rowT op.nodes) = bV at *
 generalize hTS:zA9 op.nodes op.slot = bT at *
 clear hn hct hVS hTS
 obtain ⟨kind,row,at_,n,nodes,slot,old,text⟩:=op
 simp only [opC] at *
 generalize hnl:nodes.length = len at *
 generalize hoe:old.toList.isEmpty = bO at *
 generalize hte:text.toList.isEmpty = bX at *
 clear hnl
 by_cases hk1:kind = 1
 ·subst hk1
  by_cases h1:0 < len
  rotate_left
  ·obtain rfl:len = 0:=by omega
   have HR:Hid (R = false):=by { have h:=HF.out;show _ = _;simpa using h }
   rw [HR.out]
   clear HF HR
   go_enter Tryz.func78,Tryz.ntmps78
   go_wp2_with fail
   go_ret
   exact ⟨rfl,blA _ _⟩
  cases bV
  ·have HR:Hid (R = false):=by { have h:=HF.out;show _ = _;simpa using h }
   rw [HR.out]
   clear HF HR
   go_enter Tryz.func78,Tryz.ntmps78
   go_wp2_with fail
   refine (CV.out _ (blA _ _)).mono ?_
   rintro e w1 ⟨rfl,hb1⟩
   have hc:=(bcell hb1).1
   have HB1:=hid (zAq (blA _ _) hb1)
   clear hb1
   have k3:=(hc w.heap.size 3 (by simp)).trans (newC _ _ _ _ _ rfl)
   have k5:=(hc w.heap.size 5 (by simp)).trans (newC _ _ _ _ _ rfl)
   have k6:=(hc w.heap.size 6 (by simp)).trans (newC _ _ _ _ _ rfl)
   have k7:=(hc w.heap.size 7 (by simp)).trans (newC _ _ _ _ _ rfl)
   clear hc
   go_wp2_with fail
   go_ret
   exact ⟨rfl,HB1.out⟩
  by_cases h3:n = 0
  rotate_left
  ·have i3:(n == 0) = false:=by simpa using h3
   have HR:Hid (R = false):=by { have h:=HF.out;show _ = _;simpa [h3] using h }
   rw [HR.out]
   clear HF HR
   go_enter Tryz.func78,Tryz.ntmps78
   go_wp2_with fail
   refine (CV.out _ (blA _ _)).mono ?_
   rintro e w1 ⟨rfl,hb1⟩
   have hc:=(bcell hb1).1
   have HB1:=hid (zAq (blA _ _) hb1)
   clear hb1
   have k3:=(hc w.heap.size 3 (by simp)).trans (newC _ _ _ _ _ rfl)
   have k5:=(hc w.heap.size 5 (by simp)).trans (newC _ _ _ _ _ rfl)
   have k6:=(hc w.heap.size 6 (by simp)).trans (newC _ _ _ _ _ rfl)
   have k7:=(hc w.heap.size 7 (by simp)).trans (newC _ _ _ _ _ rfl)
   clear hc
   go_wp2_with fail
   go_ret
   exact ⟨rfl,HB1.out⟩
  subst h3
  by_cases h4:slot = 0
  rotate_left
  ·have i4:(slot == 0) = false:=by simpa using h4
   have HR:Hid (R = false):=by { have h:=HF.out;show _ = _;simpa [h4] using h }
   rw [HR.out]
   clear HF HR
   go_enter Tryz.func78,Tryz.ntmps78
   go_wp2_with fail
   refine (CV.out _ (blA _ _)).mono ?_
   rintro e w1 ⟨rfl,hb1⟩
   have hc:=(bcell hb1).1
   have HB1:=hid (zAq (blA _ _) hb1)
   clear hb1
   have k3:=(hc w.heap.size 3 (by simp)).trans (newC _ _ _ _ _ rfl)
   have k5:=(hc w.heap.size 5 (by simp)).trans (newC _ _ _ _ _ rfl)
   have k6:=(hc w.heap.size 6 (by simp)).trans (newC _ _ _ _ _ rfl)
   have k7:=(hc w.heap.size 7 (by simp)).trans (newC _ _ _ _ _ rfl)
   clear hc
   go_wp2_with fail
   go_ret
   exact ⟨rfl,HB1.out⟩
  subst h4
  cases bO
  ·have HR:Hid (R = false):=by { have h:=HF.out;show _ = _;simpa using h }
   rw [HR.out]
   clear HF HR
   go_enter Tryz.func78,Tryz.ntmps78
   go_wp2_with fail
   refine (CV.out _ (blA _ _)).mono ?_
   rintro e w1 ⟨rfl,hb1⟩
   have hc:=(bcell hb1).1
   have HB1:=hid (zAq (blA _ _) hb1)
   clear hb1
   have k3:=(hc w.heap.size 3 (by simp)).trans (newC _ _ _ _ _ rfl)
   have k5:=(hc w.heap.size 5 (by simp)).trans (newC _ _ _ _ _ rfl)
   have k6:=(hc w.heap.size 6 (by simp)).trans (newC _ _ _ _ _ rfl)
   have k7:=(hc w.heap.size 7 (by simp)).trans (newC _ _ _ _ _ rfl)
   clear hc
   go_wp2_with fail
   go_ret
   exact ⟨rfl,HB1.out⟩
  cases bX
  ·have HR:Hid (R = false):=by { have h:=HF.out;show _ = _;simpa using h }
   rw [HR.out]
   clear HF HR
   go_enter Tryz.func78,Tryz.ntmps78
   go_wp2_with fail
   refine (CV.out _ (blA _ _)).mono ?_
   rintro e w1 ⟨rfl,hb1⟩
   have hc:=(bcell hb1).1
   have HB1:=hid (zAq (blA _ _) hb1)
   clear hb1
   have k3:=(hc w.heap.size 3 (by simp)).trans (newC _ _ _ _ _ rfl)
   have k5:=(hc w.heap.size 5 (by simp)).trans (newC _ _ _ _ _ rfl)
   have k6:=(hc w.heap.size 6 (by simp)).trans (newC _ _ _ _ _ rfl)
   have k7:=(hc w.heap.size 7 (by simp)).trans (newC _ _ _ _ _ rfl)
   clear hc
   go_wp2_with fail
   go_ret
   exact ⟨rfl,HB1.out⟩
  ·have HR:Hid (R = true):=by { have h:=HF.out;show _ = _;simpa [h1] using h }
   rw [HR.out]
   clear HF HR
   go_enter Tryz.func78,Tryz.ntmps78
   go_wp2_with fail
   refine (CV.out _ (blA _ _)).mono ?_
   rintro e w1 ⟨rfl,hb1⟩
   have hc:=(bcell hb1).1
   have HB1:=hid (zAq (blA _ _) hb1)
   clear hb1
   have k3:=(hc w.heap.size 3 (by simp)).trans (newC _ _ _ _ _ rfl)
   have k5:=(hc w.heap.size 5 (by simp)).trans (newC _ _ _ _ _ rfl)
   have k6:=(hc w.heap.size 6 (by simp)).trans (newC _ _ _ _ _ rfl)
   have k7:=(hc w.heap.size 7 (by simp)).trans (newC _ _ _ _ _ rfl)
   clear hc
   go_wp2_with fail
   go_ret
   exact ⟨rfl,HB1.out⟩
 by_cases hk2:kind = 2
 ·subst hk2
  by_cases h1:0 < len
  rotate_left
  ·obtain rfl:len = 0:=by omega
   have HR:Hid (R = false):=by { have h:=HF.out;show _ = _;simpa using h }
   rw [HR.out]
   clear HF HR
   go_enter Tryz.func78,Tryz.ntmps78
   go_wp2_with fail
   go_ret
   exact ⟨rfl,blA _ _⟩
  cases bV
  ·have HR:Hid (R = false):=by { have h:=HF.out;show _ = _;simpa using h }
   rw [HR.out]
   clear HF HR
   go_enter Tryz.func78,Tryz.ntmps78
   go_wp2_with fail
   refine (CV.out _ (blA _ _)).mono ?_
   rintro e w1 ⟨rfl,hb1⟩
   have hc:=(bcell hb1).1
   have HB1:=hid (zAq (blA _ _) hb1)
   clear hb1
   have k3:=(hc w.heap.size 3 (by simp)).trans (newC _ _ _ _ _ rfl)
   have k5:=(hc w.heap.size 5 (by simp)).trans (newC _ _ _ _ _ rfl)
   have k6:=(hc w.heap.size 6 (by simp)).trans (newC _ _ _ _ _ rfl)
   have k7:=(hc w.heap.size 7 (by simp)).trans (newC _ _ _ _ _ rfl)
   clear hc
   go_wp2_with fail
   go_ret
   exact ⟨rfl,HB1.out⟩
  by_cases h3:n = 0
  rotate_left
  ·have i3:(n == 0) = false:=by simpa using h3
   have HR:Hid (R = false):=by { have h:=HF.out;show _ = _;simpa [h3] using h }
   rw [HR.out]
   clear HF HR
   go_enter Tryz.func78,Tryz.ntmps78
   go_wp2_with fail
   refine (CV.out _ (blA _ _)).mono ?_
   rintro e w1 ⟨rfl,hb1⟩
   have hc:=(bcell hb1).1
   have HB1:=hid (zAq (blA _ _) hb1)
   clear hb1
   have k3:=(hc w.heap.size 3 (by simp)).trans (newC _ _ _ _ _ rfl)
   have k5:=(hc w.heap.size 5 (by simp)).trans (newC _ _ _ _ _ rfl)
   have k6:=(hc w.heap.size 6 (by simp)).trans (newC _ _ _ _ _ rfl)
   have k7:=(hc w.heap.size 7 (by simp)).trans (newC _ _ _ _ _ rfl)
   clear hc
   go_wp2_with fail
   go_ret
   exact ⟨rfl,HB1.out⟩
  subst h3
  by_cases h4:slot = 0
  rotate_left
  ·have i4:(slot == 0) = false:=by simpa using h4
   have HR:Hid (R = false):=by { have h:=HF.out;show _ = _;simpa [h4] using h }
   rw [HR.out]
   clear HF HR
   go_enter Tryz.func78,Tryz.ntmps78
   go_wp2_with fail
   refine (CV.out _ (blA _ _)).mono ?_
   rintro e w1 ⟨rfl,hb1⟩
   have hc:=(bcell hb1).1
   have HB1:=hid (zAq (blA _ _) hb1)
   clear hb1
   have k3:=(hc w.heap.size 3 (by simp)).trans (newC _ _ _ _ _ rfl)
   have k5:=(hc w.heap.size 5 (by simp)).trans (newC _ _ _ _ _ rfl)
   have k6:=(hc w.heap.size 6 (by simp)).trans (newC _ _ _ _ _ rfl)
   have k7:=(hc w.heap.size 7 (by simp)).trans (newC _ _ _ _ _ rfl)
   clear hc
   go_wp2_with fail
   go_ret
   exact ⟨rfl,HB1.out⟩
  subst h4
  cases bO
  ·have HR:Hid (R = false):=by { have h:=HF.out;show _ = _;simpa using h }
   rw [HR.out]
   clear HF HR
   go_enter Tryz.func78,Tryz.ntmps78
   go_wp2_with fail
   refine (CV.out _ (blA _ _)).mono ?_
   rintro e w1 ⟨rfl,hb1⟩
   have hc:=(bcell hb1).1
   have HB1:=hid (zAq (blA _ _) hb1)
   clear hb1
   have k3:=(hc w.heap.size 3 (by simp)).trans (newC _ _ _ _ _ rfl)
   have k5:=(hc w.heap.size 5 (by simp)).trans (newC _ _ _ _ _ rfl)
   have k6:=(hc w.heap.size 6 (by simp)).trans (newC _ _ _ _ _ rfl)
   have k7:=(hc w.heap.size 7 (by simp)).trans (newC _ _ _ _ _ rfl)
   clear hc
   go_wp2_with fail
   go_ret
   exact ⟨rfl,HB1.out⟩
  cases bX
  ·have HR:Hid (R = false):=by { have h:=HF.out;show _ = _;simpa using h }
   rw [HR.out]
   clear HF HR
   go_enter Tryz.func78,Tryz.ntmps78
   go_wp2_with fail
   refine (CV.out _ (blA _ _)).mono ?_
   rintro e w1 ⟨rfl,hb1⟩
   have hc:=(bcell hb1).1
   have HB1:=hid (zAq (blA _ _) hb1)
   clear hb1
   have k3:=(hc w.heap.size 3 (by simp)).trans (newC _ _ _ _ _ rfl)
   have k5:=(hc w.heap.size 5 (by simp)).trans (newC _ _ _ _ _ rfl)
   have k6:=(hc w.heap.size 6 (by simp)).trans (newC _ _ _ _ _ rfl)
   have k7:=(hc w.heap.size 7 (by simp)).trans (newC _ _ _ _ _ rfl)
   clear hc
   go_wp2_with fail
   go_ret
   exact ⟨rfl,HB1.out⟩
  ·have HR:Hid (R = true):=by { have h:=HF.out;show _ = _;simpa [h1] using h }
   rw [HR.out]
   clear HF HR
   go_enter Tryz.func78,Tryz.ntmps78
   go_wp2_with fail
   refine (CV.out _ (blA _ _)).mono ?_
   rintro e w1 ⟨rfl,hb1⟩
   have hc:=(bcell hb1).1
   have HB1:=hid (zAq (blA _ _) hb1)
   clear hb1
   have k3:=(hc w.heap.size 3 (by simp)).trans (newC _ _ _ _ _ rfl)
   have k5:=(hc w.heap.size 5 (by simp)).trans (newC _ _ _ _ _ rfl)
   have k6:=(hc w.heap.size 6 (by simp)).trans (newC _ _ _ _ _ rfl)
   have k7:=(hc w.heap.size 7 (by simp)).trans (newC _ _ _ _ _ rfl)
   clear hc
   go_wp2_with fail
   go_ret
   exact ⟨rfl,HB1.out⟩
 by_cases hk3:kind = 3
 ·subst hk3
  by_cases h1:0≤n
  rotate_left
  ·have i1:decide (0≤n) = false:=by simpa using h1
   have HR:Hid (R = false):=by { have h:=HF.out;show _ = _;simpa [h1] using h }
   rw [HR.out]
   clear HF HR
   go_enter Tryz.func78,Tryz.ntmps78
   go_wp2_with fail
   go_ret
   exact ⟨rfl,blA _ _⟩
  have i1:decide (0≤n) = true:=by simpa using h1
  cases bT
  ·have HR:Hid (R = false):=by { have h:=HF.out;show _ = _;simpa using h }
   rw [HR.out]
   clear HF HR
   go_enter Tryz.func78,Tryz.ntmps78
   go_wp2_with fail
   refine (CT.out _ (blA _ _)).mono ?_
   rintro e w1 ⟨rfl,hb1⟩
   have hc:=(bcell hb1).1
   have HB1:=hid (zAq (blA _ _) hb1)
   clear hb1
   have k3:=(hc w.heap.size 3 (by simp)).trans (newC _ _ _ _ _ rfl)
   have k5:=(hc w.heap.size 5 (by simp)).trans (newC _ _ _ _ _ rfl)
   have k6:=(hc w.heap.size 6 (by simp)).trans (newC _ _ _ _ _ rfl)
   have k7:=(hc w.heap.size 7 (by simp)).trans (newC _ _ _ _ _ rfl)
   clear hc
   go_wp2_with fail
   go_ret
   exact ⟨rfl,HB1.out⟩
  cases bO
  ·have HR:Hid (R = false):=by { have h:=HF.out;show _ = _;simpa using h }
   rw [HR.out]
   clear HF HR
   go_enter Tryz.func78,Tryz.ntmps78
   go_wp2_with fail
   refine (CT.out _ (blA _ _)).mono ?_
   rintro e w1 ⟨rfl,hb1⟩
   have hc:=(bcell hb1).1
   have HB1:=hid (zAq (blA _ _) hb1)
   clear hb1
   have k3:=(hc w.heap.size 3 (by simp)).trans (newC _ _ _ _ _ rfl)
   have k5:=(hc w.heap.size 5 (by simp)).trans (newC _ _ _ _ _ rfl)
   have k6:=(hc w.heap.size 6 (by simp)).trans (newC _ _ _ _ _ rfl)
   have k7:=(hc w.heap.size 7 (by simp)).trans (newC _ _ _ _ _ rfl)
   clear hc
   go_wp2_with fail
   go_ret
   exact ⟨rfl,HB1.out⟩
  cases bX
  ·have HR:Hid (R = false):=by { have h:=HF.out;show _ = _;simpa using h }
   rw [HR.out]
   clear HF HR
   go_enter Tryz.func78,Tryz.ntmps78
   go_wp2_with fail
   refine (CT.out _ (blA _ _)).mono ?_
   rintro e w1 ⟨rfl,hb1⟩
   have hc:=(bcell hb1).1
   have HB1:=hid (zAq (blA _ _) hb1)
   clear hb1
   have k3:=(hc w.heap.size 3 (by simp)).trans (newC _ _ _ _ _ rfl)
   have k5:=(hc w.heap.size 5 (by simp)).trans (newC _ _ _ _ _ rfl)
   have k6:=(hc w.heap.size 6 (by simp)).trans (newC _ _ _ _ _ rfl)
   have k7:=(hc w.heap.size 7 (by simp)).trans (newC _ _ _ _ _ rfl)
   clear hc
   go_wp2_with fail
   go_ret
   exact ⟨rfl,HB1.out⟩
  ·have HR:Hid (R = true):=by { have h:=HF.out;show _ = _;simpa [h1] using h }
   rw [HR.out]
   clear HF HR
   go_enter Tryz.func78,Tryz.ntmps78
   go_wp2_with fail
   refine (CT.out _ (blA _ _)).mono ?_
   rintro e w1 ⟨rfl,hb1⟩
   have hc:=(bcell hb1).1
   have HB1:=hid (zAq (blA _ _) hb1)
   clear hb1
   have k3:=(hc w.heap.size 3 (by simp)).trans (newC _ _ _ _ _ rfl)
   have k5:=(hc w.heap.size 5 (by simp)).trans (newC _ _ _ _ _ rfl)
   have k6:=(hc w.heap.size 6 (by simp)).trans (newC _ _ _ _ _ rfl)
   have k7:=(hc w.heap.size 7 (by simp)).trans (newC _ _ _ _ _ rfl)
   clear hc
   go_wp2_with fail
   go_ret
   exact ⟨rfl,HB1.out⟩
 by_cases hk4:kind = 4
 ·subst hk4
  by_cases h1:0≤n
  rotate_left
  ·have i1:decide (0≤n) = false:=by simpa using h1
   have HR:Hid (R = false):=by { have h:=HF.out;show _ = _;simpa [h1] using h }
   rw [HR.out]
   clear HF HR
   go_enter Tryz.func78,Tryz.ntmps78
   go_wp2_with fail
   go_ret
   exact ⟨rfl,blA _ _⟩
  have i1:decide (0≤n) = true:=by simpa using h1
  cases bT
  ·have HR:Hid (R = false):=by { have h:=HF.out;show _ = _;simpa using h }
   rw [HR.out]
   clear HF HR
   go_enter Tryz.func78,Tryz.ntmps78
   go_wp2_with fail
   refine (CT.out _ (blA _ _)).mono ?_
   rintro e w1 ⟨rfl,hb1⟩
   have hc:=(bcell hb1).1
   have HB1:=hid (zAq (blA _ _) hb1)
   clear hb1
   have k3:=(hc w.heap.size 3 (by simp)).trans (newC _ _ _ _ _ rfl)
   have k5:=(hc w.heap.size 5 (by simp)).trans (newC _ _ _ _ _ rfl)
   have k6:=(hc w.heap.size 6 (by simp)).trans (newC _ _ _ _ _ rfl)
   have k7:=(hc w.heap.size 7 (by simp)).trans (newC _ _ _ _ _ rfl)
   clear hc
   go_wp2_with fail
   go_ret
   exact ⟨rfl,HB1.out⟩
  cases bO
  ·have HR:Hid (R = false):=by { have h:=HF.out;show _ = _;simpa using h }
   rw [HR.out]
   clear HF HR
   go_enter Tryz.func78,Tryz.ntmps78
   go_wp2_with fail
   refine (CT.out _ (blA _ _)).mono ?_
   rintro e w1 ⟨rfl,hb1⟩
   have hc:=(bcell hb1).1
   have HB1:=hid (zAq (blA _ _) hb1)
   clear hb1
   have k3:=(hc w.heap.size 3 (by simp)).trans (newC _ _ _ _ _ rfl)
   have k5:=(hc w.heap.size 5 (by simp)).trans (newC _ _ _ _ _ rfl)
   have k6:=(hc w.heap.size 6 (by simp)).trans (newC _ _ _ _ _ rfl)
   have k7:=(hc w.heap.size 7 (by simp)).trans (newC _ _ _ _ _ rfl)
   clear hc
   go_wp2_with fail
   go_ret
   exact ⟨rfl,HB1.out⟩
  cases bX
  ·have HR:Hid (R = false):=by { have h:=HF.out;show _ = _;simpa using h }
   rw [HR.out]
   clear HF HR
   go_enter Tryz.func78,Tryz.ntmps78
   go_wp2_with fail
   refine (CT.out _ (blA _ _)).mono ?_
   rintro e w1 ⟨rfl,hb1⟩
   have hc:=(bcell hb1).1
   have HB1:=hid (zAq (blA _ _) hb1)
   clear hb1
   have k3:=(hc w.heap.size 3 (by simp)).trans (newC _ _ _ _ _ rfl)
   have k5:=(hc w.heap.size 5 (by simp)).trans (newC _ _ _ _ _ rfl)
   have k6:=(hc w.heap.size 6 (by simp)).trans (newC _ _ _ _ _ rfl)
   have k7:=(hc w.heap.size 7 (by simp)).trans (newC _ _ _ _ _ rfl)
   clear hc
   go_wp2_with fail
   go_ret
   exact ⟨rfl,HB1.out⟩
  ·have HR:Hid (R = true):=by { have h:=HF.out;show _ = _;simpa [h1] using h }
   rw [HR.out]
   clear HF HR
   go_enter Tryz.func78,Tryz.ntmps78
   go_wp2_with fail
   refine (CT.out _ (blA _ _)).mono ?_
   rintro e w1 ⟨rfl,hb1⟩
   have hc:=(bcell hb1).1
   have HB1:=hid (zAq (blA _ _) hb1)
   clear hb1
   have k3:=(hc w.heap.size 3 (by simp)).trans (newC _ _ _ _ _ rfl)
   have k5:=(hc w.heap.size 5 (by simp)).trans (newC _ _ _ _ _ rfl)
   have k6:=(hc w.heap.size 6 (by simp)).trans (newC _ _ _ _ _ rfl)
   have k7:=(hc w.heap.size 7 (by simp)).trans (newC _ _ _ _ _ rfl)
   clear hc
   go_wp2_with fail
   go_ret
   exact ⟨rfl,HB1.out⟩
 by_cases hk5:kind = 5
 ·subst hk5
  generalize hbs:(old.toList == text.toList) = bS at *
  cases bS
  rotate_left
  ·have HR:Hid (R = false):=by { have h:=HF.out;show _ = _;simpa using h }
   rw [HR.out]
   clear HF HR
   go_enter Tryz.func78,Tryz.ntmps78
   go_wp2_with fail
   go_ret
   exact ⟨rfl,blA _ _⟩
  by_cases h1:0 < len
  ·have i1:((len:Int) == 0) = false:=by simp;omega
   have HR:Hid (R = false):=by { have h:=HF.out;show _ = _;simpa [Nat.ne_of_gt h1] using h }
   rw [HR.out]
   clear HF HR
   go_enter Tryz.func78,Tryz.ntmps78
   go_wp2_with fail
   go_ret
   exact ⟨rfl,blA _ _⟩
  obtain rfl:len = 0:=by omega
  by_cases h3:n = 0
  rotate_left
  ·have i3:(n == 0) = false:=by simpa using h3
   have HR:Hid (R = false):=by { have h:=HF.out;show _ = _;simpa [h3] using h }
   rw [HR.out]
   clear HF HR
   go_enter Tryz.func78,Tryz.ntmps78
   go_wp2_with fail
   go_ret
   exact ⟨rfl,blA _ _⟩
  subst h3
  by_cases h4:slot = 0
  rotate_left
  ·have i4:(slot == 0) = false:=by simpa using h4
   have HR:Hid (R = false):=by { have h:=HF.out;show _ = _;simpa [h4] using h }
   rw [HR.out]
   clear HF HR
   go_enter Tryz.func78,Tryz.ntmps78
   go_wp2_with fail
   go_ret
   exact ⟨rfl,blA _ _⟩
  subst h4
  have HR:Hid (R = true):=by { have h:=HF.out;show _ = _;simpa using h }
  rw [HR.out]
  clear HF HR
  go_enter Tryz.func78,Tryz.ntmps78
  go_wp2_with fail
  go_ret
  exact ⟨rfl,blA _ _⟩
 have j1:(kind == 1) = false:=by simpa using hk1
 have j2:(kind == 2) = false:=by simpa using hk2
 have j3:(kind == 3) = false:=by simpa using hk3
 have j4:(kind == 4) = false:=by simpa using hk4
 have j5:(kind == 5) = false:=by simpa using hk5
 have HR:Hid (R = false):=by { have h:=HF.out;show _ = _;simpa [hk1,hk2,hk3,hk4,hk5] using h }
 rw [HR.out]
 clear HF HR
 go_enter Tryz.func78,Tryz.ntmps78
 go_wp2_with fail
 go_ret
 exact ⟨rfl,blA _ _⟩
def zJ4 (xs ys:List Tree):Bool:=xs.length == ys.length && eqsS xs ys
def zCv (op:OpD):Int:=if op.kind = 1 then 0 else if op.kind = 2 then op.nodes.length else if op.kind = 3 then op.n else 1
def zCt (k:Int):Bool:=decide (k = 2∨k = 3∨k = 4∨k = 10∨k = 11)
def zAi (l : List Tree) (op : OpD) : List Tree × Int :=
  if op.at_ < 0 ∨ (l.length : Int) < op.at_ ∨ (l.length : Int) - op.at_ < zCv op then ([], 2)
  else if op.kind = 1 then (zAv l op.at_.toNat op.at_.toNat op.nodes, 0)
  else if op.kind = 2 then (if zJ4 ((l.take (op.at_ + op.nodes.length).toNat).drop op.at_.toNat) op.nodes = true then (zAv l op.at_.toNat (op.at_ + op.nodes.length).toNat [], 0) else ([], 7))
  else if op.kind = 3 then (zAv l op.at_.toNat (op.at_ + op.n).toNat [zAr (op.nodes.headD zAx) op.slot.toNat ((l.take (op.at_ + op.n).toNat).drop op.at_.toNat)], 0)
  else if op.kind = 4 then
    (if (l.getD op.at_.toNat zAx).kids.length ≤ op.slot ∨ ((kidS (l.getD op.at_.toNat zAx) op.slot).kids.length : Int) ≠ op.n ∨ eqS (l.getD op.at_.toNat zAx) (zAr (op.nodes.headD zAx) op.slot.toNat (kidS (l.getD op.at_.toNat zAx) op.slot).kids) = false then ([], 7)
     else (zAv l op.at_.toNat (op.at_ + 1).toNat (kidS (l.getD op.at_.toNat zAx) op.slot).kids, 0))
  else (if zCt (l.getD op.at_.toNat zAx).kind = true ∧ ((l.getD op.at_.toNat zAx).text.toList == op.old.toList) = true then (zAv l op.at_.toNat (op.at_ + 1).toNat [.mk (l.getD op.at_.toNat zAx).kind op.text (l.getD op.at_.toNat zAx).cols (l.getD op.at_.toNat zAx).kids], 0) else ([], 7))
def zCa (S:Nat→Prop) (w:World) (r:List Tree × Int) (e:Ending) (w':World):Prop :=
 ∃ v,e = .returned (.tuple #[v,.int .i64 r.2])∧zAa zAb w' (fun q=>S q∨w.heap.size≤q∧q < w'.heap.size) r.1 v∧Below w.heap.size w w'
theorem zE4 {l:List Tree} {slot:Int} (h:zA9 l slot = true):∃ t,l = [t]∧0≤slot∧slot < t.kids.length∧(kidS t slot).kids.length = 0:=by
 unfold zA9 at h
 simp only [Bool.and_eq_true,decide_eq_true_eq] at h
 obtain ⟨h1,_,h2,h3,h4⟩:=h
 obtain ⟨t,rfl⟩:=List.length_eq_one_iff.1 h1
 exact ⟨t,rfl,h2,h3,h4⟩
theorem zFn {W X:World} {n:Nat} (h:Below W.heap.size W X):Below W.heap.size W (X.drewN n):=⟨h.os,h.tape,h.output,h.size,h.block⟩
theorem nsLt {w w0:World} {S:Nat→Prop} {b:Nat} {l:List Tree} {v:Value} (h:zAa zAb w (NS S b w) l v) (hS:∀ q,S q→q < w0.heap.size) (hb:w0.heap.size≤w.heap.size):zAa zAb w (Lt w.heap.size) l v:=h.keep (fun _ _=>rfl) (fun q hq=>by
 rcases hq with hq | hq
 ·exact Nat.lt_of_lt_of_le (hS _ hq) hb
 ·exact hq.2)
theorem zEv {w W:World} {S:Nat→Prop} {b g:Nat} {k:Int} {x:ByteArray} {c:Int} {ts:List Tree} {v:Value} {T:TypeId} (hok:zAu (.mk k x c ts)) (h:zAa zAb w (NS S b w) ts v) (hS:∀ q,S q→q < w.heap.size) (hb:b≤w.heap.size)
  (hW:Below (w.alloc (Obj.cells #[.int .i64 k,.string x,.int .i64 c,v] T)).heap.size (w.alloc (Obj.cells #[.int .i64 k,.string x,.int .i64 c,v] T)) W) (hg:g = w.heap.size):zAa zAb W (NS S b W) [.mk k x c ts] (.slice (some ⟨g,0,none⟩) 1 1):=by
 subst hg
 have hs:(w.alloc (Obj.cells #[.int .i64 k,.string x,.int .i64 c,v] T)).heap.size = w.heap.size + 1:=by simp
 have hz:=hW.size
 have hkv:zAa zAb W (NS S b W) ts v:=h.keep (fun q hq=>by
  have h9:q.block < w.heap.size:=by
   rcases hq with hq | hq
   ·exact hS _ hq
   ·exact hq.2
  exact (hW.cell (by omega)).trans ((blA w _).cell h9)) (fun q hq=>by
  rcases hq with hq | hq
  ·exact .inl hq
  ·exact .inr ⟨hq.1,by have:=hq.2;omega⟩)
 refine ⟨_,_,[.int .i64 k,.string x,.int .i64 c,v],rfl,Nat.le_refl _,by simp [maxLen],fun _=>⟨w.heap.size,0,rfl,.inr ⟨hb,by omega⟩,fun j u hu=>?_⟩,zAw.single (E:=zAb) (zB1.2 ⟨v,rfl,hok.1,hok.2.1,hok.2.2,hkv⟩)⟩
 rw [Nat.zero_add,hW.cell (by show w.heap.size < _;omega),World.cell?_alloc_new]
 simpa using hu
def zDa (W:World) (b:Nat) (op:OpD) (vr vn:Value):Prop :=
 W.cell? ⟨b,0,none⟩ = some (.int .i64 op.kind)∧W.cell? ⟨b,1,none⟩ = some vr∧W.cell? ⟨b,2,none⟩ = some (.int .i64 op.at_)∧W.cell? ⟨b,3,none⟩ = some (.int .i64 op.n) ∧
 W.cell? ⟨b,4,none⟩ = some vn∧W.cell? ⟨b,5,none⟩ = some (.int .i64 op.slot)∧W.cell? ⟨b,6,none⟩ = some (.string op.old)∧W.cell? ⟨b,7,none⟩ = some (.string op.text)
theorem zDa.new (w:World) (op:OpD) (vr vn:Value) (T:TypeId):zDa (w.alloc (.cells (opC op vr vn) T)) w.heap.size op vr vn:=by
 refine ⟨?_,?_,?_,?_,?_,?_,?_,?_⟩ <;> rw [World.cell?_alloc_new] <;> rfl
theorem zDa.below {W W':World} {B b:Nat} {op:OpD} {vr vn:Value} (h:zDa W b op vr vn) (hb:Below B W W') (hB:b < B):zDa W' b op vr vn:=by
 obtain ⟨h0,h1,h2,h3,h4,h5,h6,h7⟩:=h
 have hk:∀ o,W'.cell? ⟨b,o,none⟩ = W.cell? ⟨b,o,none⟩:=fun o=>hb.cell (p:=⟨b,o,none⟩) hB
 exact ⟨(hk _).trans h0,(hk _).trans h1,(hk _).trans h2,(hk _).trans h3,(hk _).trans h4,(hk _).trans h5,(hk _).trans h6,(hk _).trans h7⟩
theorem zBg {w W:World} {S:Nat→Prop} {ts:List Tree} {v:Value} (h:zAa zAb w S ts v) (hS:∀ q,S q→q < w.heap.size) (hb:Below w.heap.size w W):zAa zAb W S ts v:=h.keep (fun q hq=>hb.cell (hS _ hq)) (fun _ h=>h)
theorem zFl {w W:World} {S:Nat→Prop} {ts:List Tree} {v:Value} (h:zAa zAb w S ts v) (hS:∀ q,S q→q < w.heap.size) (hb:Below w.heap.size w W):zAa zAb W (Lt W.heap.size) ts v:=h.keep (fun q hq=>hb.cell (hS _ hq)) (fun q hq=>Nat.lt_of_lt_of_le (hS _ hq) hb.size)
theorem zBf (ts:List Tree):ts.length≤zAd ts:=by
 induction ts with
 | nil=>simp
 | cons u us ih=>obtain ⟨_,_,_,vs⟩:=u;rw [zAd,zAe,List.length_cons];omega
set_option maxHeartbeats 8000000 in
theorem chg_ins (l:List Tree) (row:List Int) (at_ n slot:Int) (nodes:List Tree) (old text:ByteArray) (A Ar An:Option Addr) (cap lr cr cn:Nat) (w:World) (S:Nat→Prop) (hS:∀ q,S q→q < w.heap.size) (hl:zAa zAb w S l (.slice A l.length cap)) (hn:zAa zAb w S nodes (.slice An nodes.length cn)) (hat:In64 at_) (hcl:zAd l≤1000000) (hcn:zAd nodes≤1000000) :
  Calls Tryz.prog 79 #[.slice A l.length cap,.agg (opC ⟨1,row,at_,n,nodes,slot,old,text⟩ (.slice Ar lr cr) (.slice An nodes.length cn))] w (zCa S w (zAi l ⟨1,row,at_,n,nodes,slot,old,text⟩)):=by
 have hll:l.length≤1000000:=by have:=zBf l;omega
 have hln:nodes.length≤1000000:=by have:=zBf nodes;omega
 have hnd:zCv ⟨1,row,at_,n,nodes,slot,old,text⟩ = 0:=by simp [zCv]
 have HSS:=hid hS
 generalize hW0:w.alloc (.cells (opC ⟨1,row,at_,n,nodes,slot,old,text⟩ (.slice Ar lr cr) (.slice An nodes.length cn)) 67) = W0
 have hz0:W0.heap.size = w.heap.size + 1:=by rw [← hW0];simp
 have KB:Hid (∀ W,Below W0.heap.size W0 W→zDa W w.heap.size ⟨1,row,at_,n,nodes,slot,old,text⟩ (.slice Ar lr cr) (.slice An nodes.length cn)∧Below w.heap.size w W):=fun W hW=>by
  have h0:zDa W0 w.heap.size ⟨1,row,at_,n,nodes,slot,old,text⟩ (.slice Ar lr cr) (.slice An nodes.length cn):=by rw [← hW0];exact zDa.new _ _ _ _ _
  have hB0:Below w.heap.size w W0:=by rw [← hW0];exact blA _ _
  exact ⟨h0.below hW (by omega),hB0.trans (hW.mono hB0.size)⟩
 obtain ⟨⟨m0,m1,m2,m3,m4,m5,m6,m7⟩,hB0⟩:=KB.out W0 (Below.refl _ _)
 have HB0:=hid hB0
 have HZ0:=hid hz0
 have HL:=hid hl
 have HN:=hid hn
 simp only [opC] at *
 clear hS hl hn hB0 hz0
 rcases Int.lt_or_le at_ 0 with r0 | r0
 ·have i0:decide (at_ < 0) = true:=by simpa using r0
  have hr:zAi l ⟨1,row,at_,n,nodes,slot,old,text⟩ = ([],2):=if_pos (by rw [hnd];simp only;omega)
  rw [hr]
  clear hr hnd
  go_enter Tryz.func79,Tryz.ntmps79
  go_wp2_with fail
  refine bodyPost_ret (v:=.tuple #[.slice none 0 0,.int .i64 2]) (by simp [results,Tryz.results79,go_sem]) rfl ?_
  exact ⟨_,rfl,zAa.nil_ 0 (Nat.zero_le _) none,HB0.out⟩
 have i0:decide (at_ < 0) = false:=by simpa using r0
 rcases Int.lt_or_le (l.length:Int) at_ with r1 | r1
 ·have i1:decide ((l.length:Int) < at_) = true:=by simpa using r1
  have hr:zAi l ⟨1,row,at_,n,nodes,slot,old,text⟩ = ([],2):=if_pos (by rw [hnd];simp only;omega)
  rw [hr]
  clear hr hnd
  go_enter Tryz.func79,Tryz.ntmps79
  go_wp2_with fail
  refine bodyPost_ret (v:=.tuple #[.slice none 0 0,.int .i64 2]) (by simp [results,Tryz.results79,go_sem]) rfl ?_
  exact ⟨_,rfl,zAa.nil_ 0 (Nat.zero_le _) none,HB0.out⟩
 have i1:decide ((l.length:Int) < at_) = false:=by simpa using r1
 have w1:IntKind.i64.wrap ((l.length:Int) - at_) = (l.length:Int) - at_:=IntWalk.i64_in _ (by omega)
 have r2:(0:Int)≤(l.length:Int) - at_:=by omega
 have i2:decide ((l.length:Int) - at_ < 0) = false:=by simpa using r2
 have w2:IntKind.i64.wrap (at_ + 0) = at_ + 0:=IntWalk.i64_in _ (by omega)
 have w3:IntKind.i64.wrap at_ = at_:=IntWalk.i64_in _ (by omega)
 have hnr:¬ (at_ < 0∨(l.length:Int) < at_∨(l.length:Int) - at_ < zCv ⟨1,row,at_,n,nodes,slot,old,text⟩):=by rw [hnd];omega
 obtain ⟨a,ha⟩:∃ a:Nat,at_ = a:=⟨at_.toNat,by omega⟩
 obtain ⟨b,hb⟩:∃ b:Nat,at_ + 0 = b:=⟨(at_ + 0).toNat,by omega⟩
 have hr:zAi l ⟨1,row,at_,n,nodes,slot,old,text⟩ = (zAv l a b nodes,0):=by
  unfold zAi
  rw [if_neg hnr,if_pos rfl]
  simp only [ha,Int.toNat_natCast]
  congr 2
  omega
 rw [hr]
 have HSP:=hid (zEk l nodes at_ at_ a b A An cap cn W0 S (fun q hq=>Nat.lt_of_lt_of_le (HSS.out q hq) HB0.out.size) ha (by omega) (by omega) (by omega) hll hln (zBg HL.out HSS.out HB0.out) (zBg HN.out HSS.out HB0.out))
 clear hnr hr ha hb r0 r1 r2 hnd
 go_enter Tryz.func79,Tryz.ntmps79
 go_wp2_with fail
 refine HSP.out.mono ?_
 rintro e w5 ⟨v5,rfl,hr5,hb5⟩
 have HR5:=hid hr5
 have HB5:=hid hb5
 clear hr5 hb5
 go_wp2_with fail
 refine bodyPost_ret (v:=.tuple #[v5,.int .i64 0]) (by simp [results,Tryz.results79,go_sem]) rfl ?_
 exact ⟨v5,rfl,HR5.out.keep (fun _ _=>rfl) (fun q hq=>by rcases hq with hq | hq;exact .inl hq;exact .inr ⟨Nat.le_trans HB0.out.size hq.1,hq.2⟩),zAq HB0.out HB5.out⟩
end Go.Proofs.YtbjcioknfjofkaaGreat
