/- T -/
import Derived.Test.YthpngeboknmllaaGreatQb7c8
set_option linter.unusedVariables false
set_option linter.unusedSimpArgs false
set_option maxHeartbeats 8000000
set_option maxRecDepth 100000
namespace Go.Proofs.YthpngeboknmllaaGreat
open Go.RowKit
theorem zM9 (op:ZB) (lr:Nat) (Ar An:Option Addr) (cr cn:Nat) (w:World) (hn:Z8 Z7 w (Lt w.heap.size) op.nodes (.slice An op.nodes.length cn)) :
  Calls Tryz.prog 55 #[.agg (Zu op (.slice Ar lr cr) (.slice An op.nodes.length cn))] w (Xg w (Yo op)):=by
 have CV:Hid (∀W,Below w.heap.size w W->Calls Tryz.prog 54 #[.slice An op.nodes.length cn] W (Xg W (ZN (Z6 op.nodes)))):=fun W hW=>zJg op.nodes An cn W (hn.below hW hW.size)
 have CT:Hid (∀W,Below w.heap.size w W->Calls Tryz.prog 94 #[.slice An op.nodes.length cn,.int .i64 op.slot] W (Xg W (Yf op.nodes op.slot))):=fun W hW=>zKo op.nodes op.slot An cn W (hn.below hW hW.size)
 have HF:Hid (Yo op=if op.kind=1\/op.kind=2 then decide (0<op.nodes.length)&&(ZN (Z6 op.nodes)&&(decide (op.n=0)&&(decide (op.slot=0)&&(op.old.toList.isEmpty&&op.text.toList.isEmpty))))
 else if op.kind=3\/op.kind=4 then decide (0<=op.n)&&(Yf op.nodes op.slot&&(op.old.toList.isEmpty&&op.text.toList.isEmpty))
 else if op.kind=5 then (!(op.old.toList==op.text.toList))&&(decide (op.nodes.length=0)&&(decide (op.n=0)&&decide (op.slot=0)))
 else false):=rfl
 generalize Yo op=R at *;generalize ah:ZN (Z6 op.nodes)=bV at *;generalize ai:Yf op.nodes op.slot=bT at *;clear hn ah ai;obtain⟨kind,row,at_,n,nodes,slot,old,text⟩:=op;simp only[Zu] at *;generalize af:nodes.length=len at *;generalize hoe:old.toList.isEmpty=bO at *;generalize hte:text.toList.isEmpty=bX at *;generalize hbs:(old.toList==text.toList)=bS at *;clear af;have ag:kind=1\/kind=2\/kind=3\/kind=4\/kind=5\/(kind≠1/\kind≠2/\kind≠3/\kind≠4/\kind≠5):=by omega
 rcases ag with rfl|rfl|rfl|rfl|rfl|⟨j1,j2,j3,j4,j5⟩
 iterate 2
  ·have hd:((n==0)=false/\bO=bO)\/((n==0)=true/\(slot==0)=false)\/((n==0)=true/\(slot==0)=true/\(bO=false))\/((n==0)=true/\(slot==0)=true/\bO=true/\bX=false)\/((n==0)=true/\(slot==0)=true/\bO=true/\bX=true/\len=0)\/((n==0)=true/\(slot==0)=true/\bO=true/\bX=true/\0<len):=by
    rcases Nat.eq_zero_or_pos len with h|h<;>cases (n==0)<;>cases (slot==0)<;>cases bO<;>cases bX<;>simp[h]
   rcases hd with ⟨i1,_⟩|⟨i1,i2⟩|⟨i1,i2,rfl⟩|⟨i1,i2,rfl,rfl⟩|⟨i1,i2,rfl,rfl,rfl⟩|⟨i1,i2,rfl,rfl,i5⟩
   case inr.inr.inr.inr.inr =>
    have HR:Hid (R=bV):=by { have h:=HF.out;show _=_;simp at i1 i2;rw[h];simp[i1,i2,i5] }
    rw[HR.out];clear HF HR;go_enter Tryz.func55,Tryz.ntmps55;cases bV
    all_goals
     go_wp2_with fail
     refine(CV.out _ (ZX _ _)).mono ?_;rintro e w1 ⟨rfl,aa⟩;have ae:=hid (Zx (ZX _ _) aa);clear aa
     go_wp2_with fail
     go_ret;exact⟨rfl,ae.out⟩
   all_goals
    have HR:Hid (R=false):=by { have h:=HF.out;clear HF CV CT;show _=_;first|(simp_all;done)|(simp at h;rw[h,i1];simp) }
    rw[HR.out];clear HF HR CV CT
    try cases bO
    all_goals
     try cases bX
     all_goals
      go_enter Tryz.func55,Tryz.ntmps55
      go_wp2_with fail
      go_ret;exact⟨rfl,ZX _ _⟩
 iterate 2
  ·have hd:(decide (0<=n)=false/\bO=bO)\/(decide (0<=n)=true/\(bO=false))\/(decide (0<=n)=true/\bO=true/\bX=false)\/(decide (0<=n)=true/\bO=true/\bX=true):=by
    cases decide (0<=n)<;>cases bO<;>cases bX<;>simp
   rcases hd with ⟨i1,_⟩|⟨i1,rfl⟩|⟨i1,rfl,rfl⟩|⟨i1,rfl,rfl⟩
   case inr.inr.inr =>
    have HR:Hid (R=bT):=by { have h:=HF.out;show _=_;simp at i1;rw[h];simp[i1] }
    rw[HR.out];clear HF HR;go_enter Tryz.func55,Tryz.ntmps55;cases bT
    all_goals
     go_wp2_with fail
     refine(CT.out _ (ZX _ _)).mono ?_;rintro e w1 ⟨rfl,aa⟩;have ae:=hid (Zx (ZX _ _) aa);clear aa
     go_wp2_with fail
     go_ret;exact⟨rfl,ae.out⟩
   all_goals
    have HR:Hid (R=false):=by { have h:=HF.out;clear HF CV CT;show _=_;first|(simp_all;done)|(simp at h;rw[h,i1];simp) }
    rw[HR.out];clear HF HR CV CT
    try cases bO
    all_goals
     try cases bX
     all_goals
      go_enter Tryz.func55,Tryz.ntmps55
      go_wp2_with fail
      go_ret;exact⟨rfl,ZX _ _⟩
 ·have hd:((n==0)=false/\bO=bO)\/((n==0)=true/\(slot==0)=false)\/((n==0)=true/\(slot==0)=true/\((len:Int)==0)=false)\/((n==0)=true/\(slot==0)=true/\((len:Int)==0)=true):=by
   cases (n==0)<;>cases (slot==0)<;>cases ((len:Int)==0)<;>simp
  rcases hd with ⟨i1,_⟩|⟨i1,i2⟩|⟨i1,i2,i3⟩|⟨i1,i2,i3⟩
  case inr.inr.inr =>
   have HR:Hid (R = !bS):=by { have h:=HF.out;show _=_;simp at i1 i2 i3;rw[h];simp[i1,i2,i3] }
   rw[HR.out];clear HF HR CV CT;cases bO<;>cases bX<;>cases bS
   all_goals
    go_enter Tryz.func55,Tryz.ntmps55
    go_wp2_with fail
    go_ret;exact⟨rfl,ZX _ _⟩
  all_goals
   have HR:Hid (R=false):=by { have h:=HF.out;clear HF CV CT;show _=_;first|(simp_all;done)|(simp at h;rw[h,i1];simp) }
   rw[HR.out];clear HF HR CV CT;cases bO<;>cases bX
   all_goals
    go_enter Tryz.func55,Tryz.ntmps55
    go_wp2_with fail
    go_ret;exact⟨rfl,ZX _ _⟩
 have HR:Hid (R=false):=by { have h:=HF.out;show _=_;simpa[j1,j2,j3,j4,j5] using h }
 have j1:(kind==1)=false:=by simpa using j1
 have j2:(kind==2)=false:=by simpa using j2
 have j3:(kind==3)=false:=by simpa using j3
 have j4:(kind==4)=false:=by simpa using j4
 have j5:(kind==5)=false:=by simpa using j5
 rw[HR.out];clear HF HR CV CT;cases bO<;>cases bX
 all_goals
  go_enter Tryz.func55,Tryz.ntmps55
  go_wp2_with fail
  go_ret;exact⟨rfl,ZX _ _⟩
