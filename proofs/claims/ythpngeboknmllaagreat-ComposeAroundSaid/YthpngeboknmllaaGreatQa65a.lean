/- T -/
import Derived.Test.YthpngeboknmllaaGreatQ1b79
import Derived.Test.YthpngeboknmllaaGreatQ539f
set_option linter.unusedVariables false
set_option linter.unusedSimpArgs false
set_option maxHeartbeats 8000000
set_option maxRecDepth 100000
namespace Go.Proofs.YthpngeboknmllaaGreat
open Go.RowKit
def Yo (op:ZB):Bool :=
 if op.kind=1\/op.kind=2 then decide (0<op.nodes.length)&&(ZN (Z6 op.nodes)&&(decide (op.n=0)&&(decide (op.slot=0)&&(op.old.toList.isEmpty&&op.text.toList.isEmpty))))
 else if op.kind=3\/op.kind=4 then decide (0<=op.n)&&(Yf op.nodes op.slot&&(op.old.toList.isEmpty&&op.text.toList.isEmpty))
 else if op.kind=5 then (!(op.old.toList==op.text.toList))&&(decide (op.nodes.length=0)&&(decide (op.n=0)&&decide (op.slot=0)))
 else false
theorem zOv (op:ZB) (lr:Nat) (Ar An:Option Addr) (cr cn:Nat) (w:World) (hn:Z8 Z7 w (Lt w.heap.size) op.nodes (.slice An op.nodes.length cn)) (ak:ZT op.nodes<=1000000) :
  Calls Tryz.prog 63 #[.agg (Zu op (.slice Ar lr cr) (.slice An op.nodes.length cn))] w fun e w'=>e=.returned (.bool (Yo op))/\Below w.heap.size w w':=by
 have CV:Hid (∀W,Below w.heap.size w W->Calls Tryz.prog 68 #[.slice An op.nodes.length cn] W fun e w'=>e=.returned (.bool (ZN (Z6 op.nodes)))/\Below W.heap.size W w'):=fun W hW=>zFi op.nodes An cn W (hn.below hW hW.size) (by omega)
 have CT:Hid (∀W,Below w.heap.size w W->Calls Tryz.prog 102 #[.slice An op.nodes.length cn,.int .i64 op.slot] W fun e w'=>e=.returned (.bool (Yf op.nodes op.slot))/\Below W.heap.size W w'):=fun W hW=>zKw op.nodes op.slot An cn W (hn.below hW hW.size) ak
 have HF:Hid (Yo op=if op.kind=1\/op.kind=2 then decide (0<op.nodes.length)&&(ZN (Z6 op.nodes)&&(decide (op.n=0)&&(decide (op.slot=0)&&(op.old.toList.isEmpty&&op.text.toList.isEmpty))))
 else if op.kind=3\/op.kind=4 then decide (0<=op.n)&&(Yf op.nodes op.slot&&(op.old.toList.isEmpty&&op.text.toList.isEmpty))
 else if op.kind=5 then (!(op.old.toList==op.text.toList))&&(decide (op.nodes.length=0)&&(decide (op.n=0)&&decide (op.slot=0)))
 else false):=rfl
 generalize Yo op=R at *;generalize av:ZN (Z6 op.nodes)=bV at *;generalize ax:Yf op.nodes op.slot=bT at *;clear hn ak av ax;obtain⟨kind,row,at_,n,nodes,slot,old,text⟩:=op;simp only[Zu] at *;generalize au:nodes.length=len at *;generalize hoe:old.toList.isEmpty=bO at *;generalize hte:text.toList.isEmpty=bX at *;clear au;by_cases aj:kind=1
 ·subst aj;by_cases h1:0<len;rotate_left
  ·obtain rfl:len=0:=by omega
   have HR:Hid (R=false):=by { have h:=HF.out;show _=_;simpa using h }
   rw[HR.out];clear HF HR;go_enter Tryz.func63,Tryz.ntmps63
   go_wp2_with fail
   go_ret;exact⟨rfl,ZX _ _⟩
  cases bV
  ·have HR:Hid (R=false):=by { have h:=HF.out;show _=_;simpa using h }
   rw[HR.out];clear HF HR;go_enter Tryz.func63,Tryz.ntmps63
   go_wp2_with fail
   refine(CV.out _ (ZX _ _)).mono ?_;rintro e w1 ⟨rfl,aa⟩;have hc:=(bcell aa).1;have ae:=hid (Zx (ZX _ _) aa);clear aa;have k3:=(hc w.heap.size 3 (by simp)).trans (ZU _ _ _ _ _ rfl);have k5:=(hc w.heap.size 5 (by simp)).trans (ZU _ _ _ _ _ rfl);have k6:=(hc w.heap.size 6 (by simp)).trans (ZU _ _ _ _ _ rfl);have k7:=(hc w.heap.size 7 (by simp)).trans (ZU _ _ _ _ _ rfl);clear hc
   go_wp2_with fail
   go_ret;exact⟨rfl,ae.out⟩
  by_cases h3:n=0;rotate_left
  ·have i3:(n==0)=false:=by simpa using h3
   have HR:Hid (R=false):=by { have h:=HF.out;show _=_;simpa[h3] using h }
   rw[HR.out];clear HF HR;go_enter Tryz.func63,Tryz.ntmps63
   go_wp2_with fail
   refine(CV.out _ (ZX _ _)).mono ?_;rintro e w1 ⟨rfl,aa⟩;have hc:=(bcell aa).1;have ae:=hid (Zx (ZX _ _) aa);clear aa;have k3:=(hc w.heap.size 3 (by simp)).trans (ZU _ _ _ _ _ rfl);have k5:=(hc w.heap.size 5 (by simp)).trans (ZU _ _ _ _ _ rfl);have k6:=(hc w.heap.size 6 (by simp)).trans (ZU _ _ _ _ _ rfl);have k7:=(hc w.heap.size 7 (by simp)).trans (ZU _ _ _ _ _ rfl);clear hc
   go_wp2_with fail
   go_ret;exact⟨rfl,ae.out⟩
  subst h3;by_cases h4:slot=0;rotate_left
  ·have i4:(slot==0)=false:=by simpa using h4
   have HR:Hid (R=false):=by { have h:=HF.out;show _=_;simpa[h4] using h }
   rw[HR.out];clear HF HR;go_enter Tryz.func63,Tryz.ntmps63
   go_wp2_with fail
   refine(CV.out _ (ZX _ _)).mono ?_;rintro e w1 ⟨rfl,aa⟩;have hc:=(bcell aa).1;have ae:=hid (Zx (ZX _ _) aa);clear aa;have k3:=(hc w.heap.size 3 (by simp)).trans (ZU _ _ _ _ _ rfl);have k5:=(hc w.heap.size 5 (by simp)).trans (ZU _ _ _ _ _ rfl);have k6:=(hc w.heap.size 6 (by simp)).trans (ZU _ _ _ _ _ rfl);have k7:=(hc w.heap.size 7 (by simp)).trans (ZU _ _ _ _ _ rfl);clear hc
   go_wp2_with fail
   go_ret;exact⟨rfl,ae.out⟩
  subst h4;cases bO
  ·have HR:Hid (R=false):=by { have h:=HF.out;show _=_;simpa using h }
   rw[HR.out];clear HF HR;go_enter Tryz.func63,Tryz.ntmps63
   go_wp2_with fail
   refine(CV.out _ (ZX _ _)).mono ?_;rintro e w1 ⟨rfl,aa⟩;have hc:=(bcell aa).1;have ae:=hid (Zx (ZX _ _) aa);clear aa;have k3:=(hc w.heap.size 3 (by simp)).trans (ZU _ _ _ _ _ rfl);have k5:=(hc w.heap.size 5 (by simp)).trans (ZU _ _ _ _ _ rfl);have k6:=(hc w.heap.size 6 (by simp)).trans (ZU _ _ _ _ _ rfl);have k7:=(hc w.heap.size 7 (by simp)).trans (ZU _ _ _ _ _ rfl);clear hc
   go_wp2_with fail
   go_ret;exact⟨rfl,ae.out⟩
  cases bX
  ·have HR:Hid (R=false):=by { have h:=HF.out;show _=_;simpa using h }
   rw[HR.out];clear HF HR;go_enter Tryz.func63,Tryz.ntmps63
   go_wp2_with fail
   refine(CV.out _ (ZX _ _)).mono ?_;rintro e w1 ⟨rfl,aa⟩;have hc:=(bcell aa).1;have ae:=hid (Zx (ZX _ _) aa);clear aa;have k3:=(hc w.heap.size 3 (by simp)).trans (ZU _ _ _ _ _ rfl);have k5:=(hc w.heap.size 5 (by simp)).trans (ZU _ _ _ _ _ rfl);have k6:=(hc w.heap.size 6 (by simp)).trans (ZU _ _ _ _ _ rfl);have k7:=(hc w.heap.size 7 (by simp)).trans (ZU _ _ _ _ _ rfl);clear hc
   go_wp2_with fail
   go_ret;exact⟨rfl,ae.out⟩
  have HR:Hid (R=true):=by { have h:=HF.out;show _=_;simpa[h1] using h }
  rw[HR.out];clear HF HR;go_enter Tryz.func63,Tryz.ntmps63
  go_wp2_with fail
  refine(CV.out _ (ZX _ _)).mono ?_;rintro e w1 ⟨rfl,aa⟩;have hc:=(bcell aa).1;have ae:=hid (Zx (ZX _ _) aa);clear aa;have k3:=(hc w.heap.size 3 (by simp)).trans (ZU _ _ _ _ _ rfl);have k5:=(hc w.heap.size 5 (by simp)).trans (ZU _ _ _ _ _ rfl);have k6:=(hc w.heap.size 6 (by simp)).trans (ZU _ _ _ _ _ rfl);have k7:=(hc w.heap.size 7 (by simp)).trans (ZU _ _ _ _ _ rfl);clear hc
  go_wp2_with fail
  go_ret;exact⟨rfl,ae.out⟩
 by_cases ai:kind=2
 ·subst ai;by_cases h1:0<len;rotate_left
  ·obtain rfl:len=0:=by omega
   have HR:Hid (R=false):=by { have h:=HF.out;show _=_;simpa using h }
   rw[HR.out];clear HF HR;go_enter Tryz.func63,Tryz.ntmps63
   go_wp2_with fail
   go_ret;exact⟨rfl,ZX _ _⟩
  cases bV
  ·have HR:Hid (R=false):=by { have h:=HF.out;show _=_;simpa using h }
   rw[HR.out];clear HF HR;go_enter Tryz.func63,Tryz.ntmps63
   go_wp2_with fail
   refine(CV.out _ (ZX _ _)).mono ?_;rintro e w1 ⟨rfl,aa⟩;have hc:=(bcell aa).1;have ae:=hid (Zx (ZX _ _) aa);clear aa;have k3:=(hc w.heap.size 3 (by simp)).trans (ZU _ _ _ _ _ rfl);have k5:=(hc w.heap.size 5 (by simp)).trans (ZU _ _ _ _ _ rfl);have k6:=(hc w.heap.size 6 (by simp)).trans (ZU _ _ _ _ _ rfl);have k7:=(hc w.heap.size 7 (by simp)).trans (ZU _ _ _ _ _ rfl);clear hc
   go_wp2_with fail
   go_ret;exact⟨rfl,ae.out⟩
  by_cases h3:n=0;rotate_left
  ·have i3:(n==0)=false:=by simpa using h3
   have HR:Hid (R=false):=by { have h:=HF.out;show _=_;simpa[h3] using h }
   rw[HR.out];clear HF HR;go_enter Tryz.func63,Tryz.ntmps63
   go_wp2_with fail
   refine(CV.out _ (ZX _ _)).mono ?_;rintro e w1 ⟨rfl,aa⟩;have hc:=(bcell aa).1;have ae:=hid (Zx (ZX _ _) aa);clear aa;have k3:=(hc w.heap.size 3 (by simp)).trans (ZU _ _ _ _ _ rfl);have k5:=(hc w.heap.size 5 (by simp)).trans (ZU _ _ _ _ _ rfl);have k6:=(hc w.heap.size 6 (by simp)).trans (ZU _ _ _ _ _ rfl);have k7:=(hc w.heap.size 7 (by simp)).trans (ZU _ _ _ _ _ rfl);clear hc
   go_wp2_with fail
   go_ret;exact⟨rfl,ae.out⟩
  subst h3;by_cases h4:slot=0;rotate_left
  ·have i4:(slot==0)=false:=by simpa using h4
   have HR:Hid (R=false):=by { have h:=HF.out;show _=_;simpa[h4] using h }
   rw[HR.out];clear HF HR;go_enter Tryz.func63,Tryz.ntmps63
   go_wp2_with fail
   refine(CV.out _ (ZX _ _)).mono ?_;rintro e w1 ⟨rfl,aa⟩;have hc:=(bcell aa).1;have ae:=hid (Zx (ZX _ _) aa);clear aa;have k3:=(hc w.heap.size 3 (by simp)).trans (ZU _ _ _ _ _ rfl);have k5:=(hc w.heap.size 5 (by simp)).trans (ZU _ _ _ _ _ rfl);have k6:=(hc w.heap.size 6 (by simp)).trans (ZU _ _ _ _ _ rfl);have k7:=(hc w.heap.size 7 (by simp)).trans (ZU _ _ _ _ _ rfl);clear hc
   go_wp2_with fail
   go_ret;exact⟨rfl,ae.out⟩
  subst h4;cases bO
  ·have HR:Hid (R=false):=by { have h:=HF.out;show _=_;simpa using h }
   rw[HR.out];clear HF HR;go_enter Tryz.func63,Tryz.ntmps63
   go_wp2_with fail
   refine(CV.out _ (ZX _ _)).mono ?_;rintro e w1 ⟨rfl,aa⟩;have hc:=(bcell aa).1;have ae:=hid (Zx (ZX _ _) aa);clear aa;have k3:=(hc w.heap.size 3 (by simp)).trans (ZU _ _ _ _ _ rfl);have k5:=(hc w.heap.size 5 (by simp)).trans (ZU _ _ _ _ _ rfl);have k6:=(hc w.heap.size 6 (by simp)).trans (ZU _ _ _ _ _ rfl);have k7:=(hc w.heap.size 7 (by simp)).trans (ZU _ _ _ _ _ rfl);clear hc
   go_wp2_with fail
   go_ret;exact⟨rfl,ae.out⟩
  cases bX
  ·have HR:Hid (R=false):=by { have h:=HF.out;show _=_;simpa using h }
   rw[HR.out];clear HF HR;go_enter Tryz.func63,Tryz.ntmps63
   go_wp2_with fail
   refine(CV.out _ (ZX _ _)).mono ?_;rintro e w1 ⟨rfl,aa⟩;have hc:=(bcell aa).1;have ae:=hid (Zx (ZX _ _) aa);clear aa;have k3:=(hc w.heap.size 3 (by simp)).trans (ZU _ _ _ _ _ rfl);have k5:=(hc w.heap.size 5 (by simp)).trans (ZU _ _ _ _ _ rfl);have k6:=(hc w.heap.size 6 (by simp)).trans (ZU _ _ _ _ _ rfl);have k7:=(hc w.heap.size 7 (by simp)).trans (ZU _ _ _ _ _ rfl);clear hc
   go_wp2_with fail
   go_ret;exact⟨rfl,ae.out⟩
  have HR:Hid (R=true):=by { have h:=HF.out;show _=_;simpa[h1] using h }
  rw[HR.out];clear HF HR;go_enter Tryz.func63,Tryz.ntmps63
  go_wp2_with fail
  refine(CV.out _ (ZX _ _)).mono ?_;rintro e w1 ⟨rfl,aa⟩;have hc:=(bcell aa).1;have ae:=hid (Zx (ZX _ _) aa);clear aa;have k3:=(hc w.heap.size 3 (by simp)).trans (ZU _ _ _ _ _ rfl);have k5:=(hc w.heap.size 5 (by simp)).trans (ZU _ _ _ _ _ rfl);have k6:=(hc w.heap.size 6 (by simp)).trans (ZU _ _ _ _ _ rfl);have k7:=(hc w.heap.size 7 (by simp)).trans (ZU _ _ _ _ _ rfl);clear hc
  go_wp2_with fail
  go_ret;exact⟨rfl,ae.out⟩
 by_cases ah:kind=3
 ·subst ah;by_cases h1:0<=n;rotate_left
  ·have i1:decide (0<=n)=false:=by simpa using h1
   have HR:Hid (R=false):=by { have h:=HF.out;show _=_;simpa[h1] using h }
   rw[HR.out];clear HF HR;go_enter Tryz.func63,Tryz.ntmps63
   go_wp2_with fail
   go_ret;exact⟨rfl,ZX _ _⟩
  have i1:decide (0<=n)=true:=by simpa using h1
  cases bT
  ·have HR:Hid (R=false):=by { have h:=HF.out;show _=_;simpa using h }
   rw[HR.out];clear HF HR;go_enter Tryz.func63,Tryz.ntmps63
   go_wp2_with fail
   refine(CT.out _ (ZX _ _)).mono ?_;rintro e w1 ⟨rfl,aa⟩;have hc:=(bcell aa).1;have ae:=hid (Zx (ZX _ _) aa);clear aa;have k3:=(hc w.heap.size 3 (by simp)).trans (ZU _ _ _ _ _ rfl);have k5:=(hc w.heap.size 5 (by simp)).trans (ZU _ _ _ _ _ rfl);have k6:=(hc w.heap.size 6 (by simp)).trans (ZU _ _ _ _ _ rfl);have k7:=(hc w.heap.size 7 (by simp)).trans (ZU _ _ _ _ _ rfl);clear hc
   go_wp2_with fail
   go_ret;exact⟨rfl,ae.out⟩
  cases bO
  ·have HR:Hid (R=false):=by { have h:=HF.out;show _=_;simpa using h }
   rw[HR.out];clear HF HR;go_enter Tryz.func63,Tryz.ntmps63
   go_wp2_with fail
   refine(CT.out _ (ZX _ _)).mono ?_;rintro e w1 ⟨rfl,aa⟩;have hc:=(bcell aa).1;have ae:=hid (Zx (ZX _ _) aa);clear aa;have k3:=(hc w.heap.size 3 (by simp)).trans (ZU _ _ _ _ _ rfl);have k5:=(hc w.heap.size 5 (by simp)).trans (ZU _ _ _ _ _ rfl);have k6:=(hc w.heap.size 6 (by simp)).trans (ZU _ _ _ _ _ rfl);have k7:=(hc w.heap.size 7 (by simp)).trans (ZU _ _ _ _ _ rfl);clear hc
   go_wp2_with fail
   go_ret;exact⟨rfl,ae.out⟩
  cases bX
  ·have HR:Hid (R=false):=by { have h:=HF.out;show _=_;simpa using h }
   rw[HR.out];clear HF HR;go_enter Tryz.func63,Tryz.ntmps63
   go_wp2_with fail
   refine(CT.out _ (ZX _ _)).mono ?_;rintro e w1 ⟨rfl,aa⟩;have hc:=(bcell aa).1;have ae:=hid (Zx (ZX _ _) aa);clear aa;have k3:=(hc w.heap.size 3 (by simp)).trans (ZU _ _ _ _ _ rfl);have k5:=(hc w.heap.size 5 (by simp)).trans (ZU _ _ _ _ _ rfl);have k6:=(hc w.heap.size 6 (by simp)).trans (ZU _ _ _ _ _ rfl);have k7:=(hc w.heap.size 7 (by simp)).trans (ZU _ _ _ _ _ rfl);clear hc
   go_wp2_with fail
   go_ret;exact⟨rfl,ae.out⟩
  have HR:Hid (R=true):=by { have h:=HF.out;show _=_;simpa[h1] using h }
  rw[HR.out];clear HF HR;go_enter Tryz.func63,Tryz.ntmps63
  go_wp2_with fail
  refine(CT.out _ (ZX _ _)).mono ?_;rintro e w1 ⟨rfl,aa⟩;have hc:=(bcell aa).1;have ae:=hid (Zx (ZX _ _) aa);clear aa;have k3:=(hc w.heap.size 3 (by simp)).trans (ZU _ _ _ _ _ rfl);have k5:=(hc w.heap.size 5 (by simp)).trans (ZU _ _ _ _ _ rfl);have k6:=(hc w.heap.size 6 (by simp)).trans (ZU _ _ _ _ _ rfl);have k7:=(hc w.heap.size 7 (by simp)).trans (ZU _ _ _ _ _ rfl);clear hc
  go_wp2_with fail
  go_ret;exact⟨rfl,ae.out⟩
 by_cases ag:kind=4
 ·subst ag;by_cases h1:0<=n;rotate_left
  ·have i1:decide (0<=n)=false:=by simpa using h1
   have HR:Hid (R=false):=by { have h:=HF.out;show _=_;simpa[h1] using h }
   rw[HR.out];clear HF HR;go_enter Tryz.func63,Tryz.ntmps63
   go_wp2_with fail
   go_ret;exact⟨rfl,ZX _ _⟩
  have i1:decide (0<=n)=true:=by simpa using h1
  cases bT
  ·have HR:Hid (R=false):=by { have h:=HF.out;show _=_;simpa using h }
   rw[HR.out];clear HF HR;go_enter Tryz.func63,Tryz.ntmps63
   go_wp2_with fail
   refine(CT.out _ (ZX _ _)).mono ?_;rintro e w1 ⟨rfl,aa⟩;have hc:=(bcell aa).1;have ae:=hid (Zx (ZX _ _) aa);clear aa;have k3:=(hc w.heap.size 3 (by simp)).trans (ZU _ _ _ _ _ rfl);have k5:=(hc w.heap.size 5 (by simp)).trans (ZU _ _ _ _ _ rfl);have k6:=(hc w.heap.size 6 (by simp)).trans (ZU _ _ _ _ _ rfl);have k7:=(hc w.heap.size 7 (by simp)).trans (ZU _ _ _ _ _ rfl);clear hc
   go_wp2_with fail
   go_ret;exact⟨rfl,ae.out⟩
  cases bO
  ·have HR:Hid (R=false):=by { have h:=HF.out;show _=_;simpa using h }
   rw[HR.out];clear HF HR;go_enter Tryz.func63,Tryz.ntmps63
   go_wp2_with fail
   refine(CT.out _ (ZX _ _)).mono ?_;rintro e w1 ⟨rfl,aa⟩;have hc:=(bcell aa).1;have ae:=hid (Zx (ZX _ _) aa);clear aa;have k3:=(hc w.heap.size 3 (by simp)).trans (ZU _ _ _ _ _ rfl);have k5:=(hc w.heap.size 5 (by simp)).trans (ZU _ _ _ _ _ rfl);have k6:=(hc w.heap.size 6 (by simp)).trans (ZU _ _ _ _ _ rfl);have k7:=(hc w.heap.size 7 (by simp)).trans (ZU _ _ _ _ _ rfl);clear hc
   go_wp2_with fail
   go_ret;exact⟨rfl,ae.out⟩
  cases bX
  ·have HR:Hid (R=false):=by { have h:=HF.out;show _=_;simpa using h }
   rw[HR.out];clear HF HR;go_enter Tryz.func63,Tryz.ntmps63
   go_wp2_with fail
   refine(CT.out _ (ZX _ _)).mono ?_;rintro e w1 ⟨rfl,aa⟩;have hc:=(bcell aa).1;have ae:=hid (Zx (ZX _ _) aa);clear aa;have k3:=(hc w.heap.size 3 (by simp)).trans (ZU _ _ _ _ _ rfl);have k5:=(hc w.heap.size 5 (by simp)).trans (ZU _ _ _ _ _ rfl);have k6:=(hc w.heap.size 6 (by simp)).trans (ZU _ _ _ _ _ rfl);have k7:=(hc w.heap.size 7 (by simp)).trans (ZU _ _ _ _ _ rfl);clear hc
   go_wp2_with fail
   go_ret;exact⟨rfl,ae.out⟩
  have HR:Hid (R=true):=by { have h:=HF.out;show _=_;simpa[h1] using h }
  rw[HR.out];clear HF HR;go_enter Tryz.func63,Tryz.ntmps63
  go_wp2_with fail
  refine(CT.out _ (ZX _ _)).mono ?_;rintro e w1 ⟨rfl,aa⟩;have hc:=(bcell aa).1;have ae:=hid (Zx (ZX _ _) aa);clear aa;have k3:=(hc w.heap.size 3 (by simp)).trans (ZU _ _ _ _ _ rfl);have k5:=(hc w.heap.size 5 (by simp)).trans (ZU _ _ _ _ _ rfl);have k6:=(hc w.heap.size 6 (by simp)).trans (ZU _ _ _ _ _ rfl);have k7:=(hc w.heap.size 7 (by simp)).trans (ZU _ _ _ _ _ rfl);clear hc
  go_wp2_with fail
  go_ret;exact⟨rfl,ae.out⟩
 by_cases af:kind=5
 ·subst af;generalize hbs:(old.toList==text.toList)=bS at *;cases bS;rotate_left
  ·have HR:Hid (R=false):=by { have h:=HF.out;show _=_;simpa using h }
   rw[HR.out];clear HF HR;go_enter Tryz.func63,Tryz.ntmps63
   go_wp2_with fail
   go_ret;exact⟨rfl,ZX _ _⟩
  by_cases h1:0<len
  ·have i1:((len:Int)==0)=false:=by simp;omega
   have HR:Hid (R=false):=by { have h:=HF.out;show _=_;simpa[Nat.ne_of_gt h1] using h }
   rw[HR.out];clear HF HR;go_enter Tryz.func63,Tryz.ntmps63
   go_wp2_with fail
   go_ret;exact⟨rfl,ZX _ _⟩
  obtain rfl:len=0:=by omega
  by_cases h3:n=0;rotate_left
  ·have i3:(n==0)=false:=by simpa using h3
   have HR:Hid (R=false):=by { have h:=HF.out;show _=_;simpa[h3] using h }
   rw[HR.out];clear HF HR;go_enter Tryz.func63,Tryz.ntmps63
   go_wp2_with fail
   go_ret;exact⟨rfl,ZX _ _⟩
  subst h3;by_cases h4:slot=0;rotate_left
  ·have i4:(slot==0)=false:=by simpa using h4
   have HR:Hid (R=false):=by { have h:=HF.out;show _=_;simpa[h4] using h }
   rw[HR.out];clear HF HR;go_enter Tryz.func63,Tryz.ntmps63
   go_wp2_with fail
   go_ret;exact⟨rfl,ZX _ _⟩
  subst h4;have HR:Hid (R=true):=by { have h:=HF.out;show _=_;simpa using h }
  rw[HR.out];clear HF HR;go_enter Tryz.func63,Tryz.ntmps63
  go_wp2_with fail
  go_ret;exact⟨rfl,ZX _ _⟩
 have j1:(kind==1)=false:=by simpa using aj
 have j2:(kind==2)=false:=by simpa using ai
 have j3:(kind==3)=false:=by simpa using ah
 have j4:(kind==4)=false:=by simpa using ag
 have j5:(kind==5)=false:=by simpa using af
 have HR:Hid (R=false):=by { have h:=HF.out;show _=_;simpa[aj,ai,ah,ag,af] using h }
 rw[HR.out];clear HF HR;go_enter Tryz.func63,Tryz.ntmps63
 go_wp2_with fail
 go_ret;exact⟨rfl,ZX _ _⟩
def UA (xs ys:List Z9):Bool:=xs.length==ys.length&&Zr xs ys
def YM (op:ZB):Int:=if op.kind=1 then 0 else if op.kind=2 then op.nodes.length else if op.kind=3 then op.n else 1
def WB (k:Int):Bool:=decide (k=2\/k=3\/k=4\/k=10\/k=11)
def ZC (l:List Z9) (op:ZB):List Z9×Int :=
 if op.at_<0\/(l.length:Int)<op.at_\/(l.length:Int)-op.at_<YM op then ([],2)
 else if op.kind=1 then (Zk l op.at_.toNat op.at_.toNat op.nodes,0)
 else if op.kind=2 then (if UA ((l.take (op.at_+op.nodes.length).toNat).drop op.at_.toNat) op.nodes=true then (Zk l op.at_.toNat (op.at_+op.nodes.length).toNat [],0) else ([],7))
 else if op.kind=3 then (Zk l op.at_.toNat (op.at_+op.n).toNat [Zp (op.nodes.headD ZJ) op.slot.toNat ((l.take (op.at_+op.n).toNat).drop op.at_.toNat)],0)
 else if op.kind=4 then
  (
   if (l.getD op.at_.toNat ZJ).kids.length<=op.slot\/((ZY (l.getD op.at_.toNat ZJ) op.slot).kids.length:Int)≠op.n\/YB (l.getD op.at_.toNat ZJ) (Zp (op.nodes.headD ZJ) op.slot.toNat (ZY (l.getD op.at_.toNat ZJ) op.slot).kids)=false then ([],7)
   else (Zk l op.at_.toNat (op.at_+1).toNat (ZY (l.getD op.at_.toNat ZJ) op.slot).kids,0))
 else (if WB (l.getD op.at_.toNat ZJ).kind=true/\((l.getD op.at_.toNat ZJ).text.toList==op.old.toList)=true then (Zk l op.at_.toNat (op.at_+1).toNat [.mk (l.getD op.at_.toNat ZJ).kind op.text (l.getD op.at_.toNat ZJ).cols (l.getD op.at_.toNat ZJ).kids],0) else ([],7))
def XB (S:Nat->Prop) (w:World) (r:List Z9×Int) (e:Ending) (w':World):Prop :=
 ∃v,e=.returned (.tuple #[v,.int .i64 r.2])/\Z8 Z7 w' (fun q=>S q\/w.heap.size<=q/\q<w'.heap.size) r.1 v/\Below w.heap.size w w'
theorem zE4 {l:List Z9} {slot:Int} (h:Yf l slot=true):∃t,l=[t]/\0<=slot/\slot<t.kids.length/\(ZY t slot).kids.length=0:=by
 unfold Yf at h;simp only[Bool.and_eq_true,decide_eq_true_eq] at h;obtain⟨h1,_,h2,h3,h4⟩:=h;obtain⟨t,rfl⟩:=List.length_eq_one_iff.1 h1;exact⟨t,rfl,h2,h3,h4⟩
theorem TM {W X:World} {n:Nat} (h:Below W.heap.size W X):Below W.heap.size W (X.drewN n):=⟨h.os,h.tape,h.output,h.size,h.block⟩
theorem SY {w w0:World} {S:Nat->Prop} {b:Nat} {l:List Z9} {v:Value} (h:Z8 Z7 w (NS S b w) l v) (hS:∀q,S q->q<w0.heap.size) (hb:w0.heap.size<=w.heap.size):Z8 Z7 w (Lt w.heap.size) l v:=h.keep (fun _ _=>rfl) (fun q hq=>by
 rcases hq with hq|hq
 ·exact QV (hS _ hq) hb
 exact hq.2)
theorem Tk {w W:World} {S:Nat->Prop} {b g:Nat} {k:Int} {x:ByteArray} {c:Int} {ts:List Z9} {v:Value} {T:TypeId} (aa:Zt (.mk k x c ts)) (h:Z8 Z7 w (NS S b w) ts v) (hS:∀q,S q->q<w.heap.size) (hb:b<=w.heap.size)
  (hW:Below (w.alloc (Obj.cells #[.int .i64 k,.string x,.int .i64 c,v] T)).heap.size (w.alloc (Obj.cells #[.int .i64 k,.string x,.int .i64 c,v] T)) W) (hg:g=w.heap.size):Z8 Z7 W (NS S b W) [.mk k x c ts] (.slice (some ⟨g,0,none⟩) 1 1):=by
 subst hg;have hs:(w.alloc (Obj.cells #[.int .i64 k,.string x,.int .i64 c,v] T)).heap.size=w.heap.size+1:=by simp
 have hz:=hW.size;have ae:Z8 Z7 W (NS S b W) ts v:=h.keep (fun q hq=>by
  have h9:q.block<w.heap.size:=by
   rcases hq with hq|hq
   ·exact hS _ hq
   exact hq.2
  exact(hW.cell (by omega)).trans ((ZX w _).cell h9)) (fun q hq=>by
  rcases hq with hq|hq
  ·exact .inl hq
  exact .inr ⟨hq.1,by have:=hq.2;omega⟩)
 refine⟨_,_,[.int .i64 k,.string x,.int .i64 c,v],rfl,QT _,by simp[maxLen],fun _=>⟨w.heap.size,0,rfl,.inr ⟨hb,by omega⟩,fun j u hu=>?_⟩,ZK.single (E:=Z7) (YI.2 ⟨v,rfl,aa.1,aa.2.1,aa.2.2,ae⟩)⟩;rw[Nat.zero_add,hW.cell (by show w.heap.size<_;omega),World.cell?_alloc_new];simpa using hu
def Yv (W:World) (b:Nat) (op:ZB) (vr vn:Value):Prop :=
 W.cell? ⟨b,0,none⟩=some (.int .i64 op.kind)/\W.cell? ⟨b,1,none⟩=some vr/\W.cell? ⟨b,2,none⟩=some (.int .i64 op.at_)/\W.cell? ⟨b,3,none⟩=some (.int .i64 op.n) /\
 W.cell? ⟨b,4,none⟩=some vn/\W.cell? ⟨b,5,none⟩=some (.int .i64 op.slot)/\W.cell? ⟨b,6,none⟩=some (.string op.old)/\W.cell? ⟨b,7,none⟩=some (.string op.text)
theorem Yv.new (w:World) (op:ZB) (vr vn:Value) (T:TypeId):Yv (w.alloc (.cells (Zu op vr vn) T)) w.heap.size op vr vn:=by
 refine⟨?_,?_,?_,?_,?_,?_,?_,?_⟩<;>rw[World.cell?_alloc_new]<;>rfl
theorem Yv.below {W W':World} {B b:Nat} {op:ZB} {vr vn:Value} (h:Yv W b op vr vn) (hb:Below B W W') (hB:b<B):Yv W' b op vr vn:=by
 obtain⟨h0,h1,h2,h3,h4,h5,h6,h7⟩:=h;have hk:∀o,W'.cell? ⟨b,o,none⟩=W.cell? ⟨b,o,none⟩:=fun o=>hb.cell (p:=⟨b,o,none⟩) hB
 exact⟨(hk _).trans h0,(hk _).trans h1,(hk _).trans h2,(hk _).trans h3,(hk _).trans h4,(hk _).trans h5,(hk _).trans h6,(hk _).trans h7⟩
theorem YH {w W:World} {S:Nat->Prop} {ts:List Z9} {v:Value} (h:Z8 Z7 w S ts v) (hS:∀q,S q->q<w.heap.size) (hb:Below w.heap.size w W):Z8 Z7 W S ts v:=h.keep (fun q hq=>hb.cell (hS _ hq)) (fun _ h=>h)
theorem UM {w W:World} {S:Nat->Prop} {ts:List Z9} {v:Value} (h:Z8 Z7 w S ts v) (hS:∀q,S q->q<w.heap.size) (hb:Below w.heap.size w W):Z8 Z7 W (Lt W.heap.size) ts v:=h.keep (fun q hq=>hb.cell (hS _ hq)) (fun q hq=>QV (hS _ hq) hb.size)
theorem WG (ts:List Z9):ts.length<=ZT ts:=by
 induction ts with
 |nil=>simp
 |cons u us ih=>obtain⟨_,_,_,vs⟩:=u;rw[ZT,ZW,List.length_cons];omega
theorem TT (l:List Z9) (row:List Int) (at_ n slot:Int) (nodes:List Z9) (old text:ByteArray) (A Ar An:Option Addr) (cap lr cr cn:Nat) (w:World) (S:Nat->Prop) (hS:∀q,S q->q<w.heap.size) (hl:Z8 Z7 w S l (.slice A l.length cap)) (hn:Z8 Z7 w S nodes (.slice An nodes.length cn)) (hat:Z4 at_) (hcl:ZT l<=1000000) (hcn:ZT nodes<=1000000) :
  Calls Tryz.prog 65 #[.slice A l.length cap,.agg (Zu ⟨1,row,at_,n,nodes,slot,old,text⟩ (.slice Ar lr cr) (.slice An nodes.length cn))] w (XB S w (ZC l ⟨1,row,at_,n,nodes,slot,old,text⟩)):=by
 have ax:l.length<=1000000:=by have:=WG l;omega
 have av:nodes.length<=1000000:=by have:=WG nodes;omega
 have ae:YM ⟨1,row,at_,n,nodes,slot,old,text⟩=0:=by simp[YM]
 have ah:=hid hS;generalize ag:w.alloc (.cells (Zu ⟨1,row,at_,n,nodes,slot,old,text⟩ (.slice Ar lr cr) (.slice An nodes.length cn)) 49)=W0;have ai:W0.heap.size=w.heap.size+1:=by rw[<-ag];simp
 have KB:Hid (∀W,Below W0.heap.size W0 W->Yv W w.heap.size ⟨1,row,at_,n,nodes,slot,old,text⟩ (.slice Ar lr cr) (.slice An nodes.length cn)/\Below w.heap.size w W):=fun W hW=>by
  have h0:Yv W0 w.heap.size ⟨1,row,at_,n,nodes,slot,old,text⟩ (.slice Ar lr cr) (.slice An nodes.length cn):=by rw[<-ag];exact Yv.new _ _ _ _ _
  have af:Below w.heap.size w W0:=by rw[<-ag];exact ZX _ _
  exact⟨h0.below hW (by omega),af.trans (hW.mono af.size)⟩
 obtain⟨⟨m0,m1,m2,m3,m4,m5,m6,m7⟩,af⟩:=KB.out W0 (QQ _ _);have aa:=hid af;have HZ0:=hid ai;have HL:=hid hl;have HN:=hid hn;simp only[Zu] at *;clear hS hl hn af ai;rcases Int.lt_or_le at_ 0 with r0|r0
 ·have i0:decide (at_<0)=true:=by simpa using r0
  have hr:ZC l ⟨1,row,at_,n,nodes,slot,old,text⟩=([],2):=if_pos (by rw[ae];simp only;omega);rw[hr];clear hr ae;go_enter Tryz.func65,Tryz.ntmps65
  go_wp2_with fail
  refine bodyPost_ret (v:=.tuple #[.slice none 0 0,.int .i64 2]) (by simp[results,Tryz.results65,go_sem]) rfl ?_;exact⟨_,rfl,Z8.nil_ 0 (QU _) none,aa.out⟩
 have i0:decide (at_<0)=false:=by simpa using r0
 rcases Int.lt_or_le (l.length:Int) at_ with r1|r1
 ·have i1:decide ((l.length:Int)<at_)=true:=by simpa using r1
  have hr:ZC l ⟨1,row,at_,n,nodes,slot,old,text⟩=([],2):=if_pos (by rw[ae];simp only;omega);rw[hr];clear hr ae;go_enter Tryz.func65,Tryz.ntmps65
  go_wp2_with fail
  refine bodyPost_ret (v:=.tuple #[.slice none 0 0,.int .i64 2]) (by simp[results,Tryz.results65,go_sem]) rfl ?_;exact⟨_,rfl,Z8.nil_ 0 (QU _) none,aa.out⟩
 have i1:decide ((l.length:Int)<at_)=false:=by simpa using r1
 have w1:IntKind.i64.wrap ((l.length:Int)-at_)=(l.length:Int)-at_:=IntWalk.i64_in _ (by omega);have r2:(0:Int)<=(l.length:Int)-at_:=by omega
 have i2:decide ((l.length:Int)-at_<0)=false:=by simpa using r2
 have w2:IntKind.i64.wrap (at_+0)=at_+0:=IntWalk.i64_in _ (by omega);have w3:IntKind.i64.wrap at_=at_:=IntWalk.i64_in _ (by omega);have ak:¬(at_<0\/(l.length:Int)<at_\/(l.length:Int)-at_<YM ⟨1,row,at_,n,nodes,slot,old,text⟩):=by rw[ae];omega
 obtain⟨a,ha⟩:∃a:Nat,at_=a:=⟨at_.toNat,by omega⟩;obtain⟨b,hb⟩:∃b:Nat,at_+0=b:=⟨(at_+0).toNat,by omega⟩;have hr:ZC l ⟨1,row,at_,n,nodes,slot,old,text⟩=(Zk l a b nodes,0):=by
  unfold ZC;rw[if_neg ak,if_pos rfl];simp only[ha,Int.toNat_natCast];congr 2;omega
 rw[hr];have ay:=hid (RG l nodes at_ at_ a b A An cap cn W0 S (fun q hq=>QV (ah.out q hq) aa.out.size) ha (by omega) (by omega) (by omega) ax av (YH HL.out ah.out aa.out) (YH HN.out ah.out aa.out));clear ak hr ha hb r0 r1 r2 ae;go_enter Tryz.func65,Tryz.ntmps65
 go_wp2_with fail
 refine ay.out.mono ?_;rintro e w5 ⟨v5,rfl,aj,au⟩;have az:=hid aj;have aA:=hid au;clear aj au
 go_wp2_with fail
 refine bodyPost_ret (v:=.tuple #[v5,.int .i64 0]) (by simp[results,Tryz.results65,go_sem]) rfl ?_;exact⟨v5,rfl,az.out.keep (fun _ _=>rfl) (fun q hq=>by rcases hq with hq|hq;exact .inl hq;exact .inr ⟨QP aa.out.size hq.1,hq.2⟩),Zx aa.out aA.out⟩
