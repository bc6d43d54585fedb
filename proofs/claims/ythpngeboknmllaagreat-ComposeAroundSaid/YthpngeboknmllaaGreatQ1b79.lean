/- T -/
import Derived.Test.YthpngeboknmllaaGreatQ3bf0
set_option linter.unusedVariables false
set_option linter.unusedSimpArgs false
set_option maxHeartbeats 4000000
namespace Go.Proofs.YthpngeboknmllaaGreat
open Go.RowKit
abbrev Zu (op:ZB) (vr vn:Value):Array Value :=
 #[.int .i64 op.kind,vr,.int .i64 op.at_,.int .i64 op.n,vn,.int .i64 op.slot,.string op.old,.string op.text]
structure ZB.Ok (op:ZB):Prop where
 at_:Bd 1099511627776 op.at_
 n:Bd 1099511627776 op.n
 slot:Bd 1099511627776 op.slot
 nodes:op.nodes.length<=1000000
 row:op.row.length<=1000
def Y4 (op:ZB) (o:Int) (after:Bool):List Int :=
 if op.kind=1/\(op.at_<o\/o=op.at_/\after=true) then [o+op.nodes.length]
 else if op.kind=2/\op.at_<o then (if o<op.at_+op.nodes.length then [op.at_] else [o-op.nodes.length])
 else if op.kind=3/\op.at_<o then (if o<op.at_+op.n then [op.at_,op.slot,o-op.at_] else [o-op.n+1])
 else if op.kind=3/\o=op.at_/\op.n=0/\after=true then [op.at_+1]
 else if op.kind=4/\op.at_<o then [o-1+op.n]
 else [o]
theorem zWm (op:ZB) (o:Int) (after:Bool) (Ar An:Option Addr) (lr cr cn:Nat) (w:World) (az:op.Ok) (ho:Bd 1152921504606846976 o) :
  Calls Tryz.prog 110 #[.agg (Zu op (.slice Ar lr cr) (.slice An op.nodes.length cn)),.int .i64 o,.bool after] w (WZ w (Y4 op o after)):=by
 obtain⟨aL,hn,ae,hnl,hrl⟩:=az;unfold Bd at *;obtain⟨aK,aJ⟩:=aL;obtain⟨hn1,hn2⟩:=hn;obtain⟨hs1,hs2⟩:=ae;obtain⟨ho1,ho2⟩:=ho;obtain⟨kind,row,at_,n,nodes,slot,old,text⟩:=op;simp only[Zu] at *;by_cases ak:kind=1
 ·subst ak;rcases Int.lt_trichotomy o at_ with hl1|aB|hg1
  ·have av:(o==at_)=false:=by simp;omega
   have HF:Hid (Y4 ⟨1,row,at_,n,nodes,slot,old,text⟩ o after=[o]):=by
    show _=_;unfold Y4
    repeat' split
    all_goals first|rfl|(exfalso;simp_all;done)|(exfalso;simp_all;omega)|(simp;done)|(simp;omega)
   go_enter Tryz.func110,Tryz.ntmps110
   go_wp2_with fail
   go_ret;rw[HF.out];exact⟨_,rfl,Yg (ZO _ _) [o] (m1 _) (by simp) _ _ rfl (by simp) _ rfl⟩
  ·have av:(o==at_)=true:=by simp;omega
   have hu1:o<=at_:=by omega
   have hv1:at_<=o:=by omega
   clear aB;cases after with
   |
    true =>
    have HF:Hid (Y4 ⟨1,row,at_,n,nodes,slot,old,text⟩ o true=[o+(nodes.length:Int)]):=by
     show _=_;unfold Y4
     repeat' split
     all_goals first|rfl|(exfalso;simp_all;done)|(exfalso;simp_all;omega)|(simp;done)|(simp;omega)
    go_enter Tryz.func110,Tryz.ntmps110
    go_wp2_with fail
    go_ret;rw[HF.out];exact⟨_,rfl,Yg (ZO _ _) [o+(nodes.length:Int)] (m1 _) (by simp) _ _ rfl (by simp) _ rfl⟩
   |
    false =>
    have HF:Hid (Y4 ⟨1,row,at_,n,nodes,slot,old,text⟩ o false=[o]):=by
     show _=_;unfold Y4
     repeat' split
     all_goals first|rfl|(exfalso;simp_all;done)|(exfalso;simp_all;omega)|(simp;done)|(simp;omega)
    go_enter Tryz.func110,Tryz.ntmps110
    go_wp2_with fail
    go_ret;rw[HF.out];exact⟨_,rfl,Yg (ZO _ _) [o] (m1 _) (by simp) _ _ rfl (by simp) _ rfl⟩
  have av:(o==at_)=false:=by simp;omega
  have HF:Hid (Y4 ⟨1,row,at_,n,nodes,slot,old,text⟩ o after=[o+(nodes.length:Int)]):=by
   show _=_;unfold Y4
   repeat' split
   all_goals first|rfl|(exfalso;simp_all;done)|(exfalso;simp_all;omega)|(simp;done)|(simp;omega)
  go_enter Tryz.func110,Tryz.ntmps110
  go_wp2_with fail
  go_ret;rw[HF.out];exact⟨_,rfl,Yg (ZO _ _) [o+(nodes.length:Int)] (m1 _) (by simp) _ _ rfl (by simp) _ rfl⟩
 have aI:(kind==1)=false:=by simpa using ak
 clear ak;by_cases hc1:kind=2
 ·subst hc1;by_cases ay:at_<o
  ·skip
   by_cases ax:o<at_+(nodes.length:Int)
   ·skip
    have HF:Hid (Y4 ⟨2,row,at_,n,nodes,slot,old,text⟩ o after=[at_]):=by
     show _=_;unfold Y4
     repeat' split
     all_goals first|rfl|(exfalso;simp_all;done)|(exfalso;simp_all;omega)|(simp;done)|(simp;omega)
    go_enter Tryz.func110,Tryz.ntmps110
    go_wp2_with fail
    go_ret;rw[HF.out];exact⟨_,rfl,Yg (ZO _ _) [at_] (m1 _) (by simp) _ _ rfl (by simp) _ rfl⟩
   have aC:=Int.not_lt.1 ax;clear ax;have HF:Hid (Y4 ⟨2,row,at_,n,nodes,slot,old,text⟩ o after=[o-(nodes.length:Int)]):=by
    show _=_;unfold Y4
    repeat' split
    all_goals first|rfl|(exfalso;simp_all;done)|(exfalso;simp_all;omega)|(simp;done)|(simp;omega)
   go_enter Tryz.func110,Tryz.ntmps110
   go_wp2_with fail
   go_ret;rw[HF.out];exact⟨_,rfl,Yg (ZO _ _) [o-(nodes.length:Int)] (m1 _) (by simp) _ _ rfl (by simp) _ rfl⟩
  have aD:=Int.not_lt.1 ay;clear ay;have HF:Hid (Y4 ⟨2,row,at_,n,nodes,slot,old,text⟩ o after=[o]):=by
   show _=_;unfold Y4
   repeat' split
   all_goals first|rfl|(exfalso;simp_all;done)|(exfalso;simp_all;omega)|(simp;done)|(simp;omega)
  go_enter Tryz.func110,Tryz.ntmps110
  go_wp2_with fail
  go_ret;rw[HF.out];exact⟨_,rfl,Yg (ZO _ _) [o] (m1 _) (by simp) _ _ rfl (by simp) _ rfl⟩
 have aH:(kind==2)=false:=by simpa using hc1
 clear hc1;by_cases aj:kind=3
 ·subst aj;rcases Int.lt_trichotomy o at_ with hl3|aA|hg3
  ·have au:(o==at_)=false:=by simp;omega
   have HF:Hid (Y4 ⟨3,row,at_,n,nodes,slot,old,text⟩ o after=[o]):=by
    show _=_;unfold Y4
    repeat' split
    all_goals first|rfl|(exfalso;simp_all;done)|(exfalso;simp_all;omega)|(simp;done)|(simp;omega)
   go_enter Tryz.func110,Tryz.ntmps110
   go_wp2_with fail
   go_ret;rw[HF.out];exact⟨_,rfl,Yg (ZO _ _) [o] (m1 _) (by simp) _ _ rfl (by simp) _ rfl⟩
  ·have au:(o==at_)=true:=by simp;omega
   have hu3:o<=at_:=by omega
   have hv3:at_<=o:=by omega
   clear aA;cases after with
   |
    true =>
    by_cases aa:n=0
    ·subst aa;have HF:Hid (Y4 ⟨3,row,at_,0,nodes,slot,old,text⟩ o true=[at_+1]):=by
      show _=_;unfold Y4
      repeat' split
      all_goals first|rfl|(exfalso;simp_all;done)|(exfalso;simp_all;omega)|(simp;done)|(simp;omega)
     go_enter Tryz.func110,Tryz.ntmps110
     go_wp2_with fail
     go_ret;rw[HF.out];exact⟨_,rfl,Yg (ZO _ _) [at_+1] (m1 _) (by simp) _ _ rfl (by simp) _ rfl⟩
    have ah:(n==0)=false:=by simpa using aa
    clear aa;have HF:Hid (Y4 ⟨3,row,at_,n,nodes,slot,old,text⟩ o true=[o]):=by
     show _=_;unfold Y4
     repeat' split
     all_goals first|rfl|(exfalso;simp_all;done)|(exfalso;simp_all;omega)|(simp;done)|(simp;omega)
    go_enter Tryz.func110,Tryz.ntmps110
    go_wp2_with fail
    go_ret;rw[HF.out];exact⟨_,rfl,Yg (ZO _ _) [o] (m1 _) (by simp) _ _ rfl (by simp) _ rfl⟩
   |
    false =>
    by_cases aa:n=0
    ·subst aa;have HF:Hid (Y4 ⟨3,row,at_,0,nodes,slot,old,text⟩ o false=[o]):=by
      show _=_;unfold Y4
      repeat' split
      all_goals first|rfl|(exfalso;simp_all;done)|(exfalso;simp_all;omega)|(simp;done)|(simp;omega)
     go_enter Tryz.func110,Tryz.ntmps110
     go_wp2_with fail
     go_ret;rw[HF.out];exact⟨_,rfl,Yg (ZO _ _) [o] (m1 _) (by simp) _ _ rfl (by simp) _ rfl⟩
    have ah:(n==0)=false:=by simpa using aa
    clear aa;have HF:Hid (Y4 ⟨3,row,at_,n,nodes,slot,old,text⟩ o false=[o]):=by
     show _=_;unfold Y4
     repeat' split
     all_goals first|rfl|(exfalso;simp_all;done)|(exfalso;simp_all;omega)|(simp;done)|(simp;omega)
    go_enter Tryz.func110,Tryz.ntmps110
    go_wp2_with fail
    go_ret;rw[HF.out];exact⟨_,rfl,Yg (ZO _ _) [o] (m1 _) (by simp) _ _ rfl (by simp) _ rfl⟩
  have au:(o==at_)=false:=by simp;omega
  by_cases af:o<at_+n
  ·skip
   have HF:Hid (Y4 ⟨3,row,at_,n,nodes,slot,old,text⟩ o after=[at_,slot,o-at_]):=by
    show _=_;unfold Y4
    repeat' split
    all_goals first|rfl|(exfalso;simp_all;done)|(exfalso;simp_all;omega)|(simp;done)|(simp;omega)
   go_enter Tryz.func110,Tryz.ntmps110
   go_wp2_with fail
   go_ret;rw[HF.out];exact⟨_,rfl,Yg (ZO _ _) [at_,slot,o-at_] (m3 _ _ _) (by simp) _ _ rfl (by simp) _ rfl⟩
  have ag:=Int.not_lt.1 af;clear af;have HF:Hid (Y4 ⟨3,row,at_,n,nodes,slot,old,text⟩ o after=[o-n+1]):=by
   show _=_;unfold Y4
   repeat' split
   all_goals first|rfl|(exfalso;simp_all;done)|(exfalso;simp_all;omega)|(simp;done)|(simp;omega)
  go_enter Tryz.func110,Tryz.ntmps110
  go_wp2_with fail
  go_ret;rw[HF.out];exact⟨_,rfl,Yg (ZO _ _) [o-n+1] (m1 _) (by simp) _ _ rfl (by simp) _ rfl⟩
 have aG:(kind==3)=false:=by simpa using aj
 clear aj;by_cases ai:kind=4
 ·subst ai;by_cases af:at_<o
  ·skip
   have HF:Hid (Y4 ⟨4,row,at_,n,nodes,slot,old,text⟩ o after=[o-1+n]):=by
    show _=_;unfold Y4
    repeat' split
    all_goals first|rfl|(exfalso;simp_all;done)|(exfalso;simp_all;omega)|(simp;done)|(simp;omega)
   go_enter Tryz.func110,Tryz.ntmps110
   go_wp2_with fail
   go_ret;rw[HF.out];exact⟨_,rfl,Yg (ZO _ _) [o-1+n] (m1 _) (by simp) _ _ rfl (by simp) _ rfl⟩
  have ag:=Int.not_lt.1 af;clear af;have HF:Hid (Y4 ⟨4,row,at_,n,nodes,slot,old,text⟩ o after=[o]):=by
   show _=_;unfold Y4
   repeat' split
   all_goals first|rfl|(exfalso;simp_all;done)|(exfalso;simp_all;omega)|(simp;done)|(simp;omega)
  go_enter Tryz.func110,Tryz.ntmps110
  go_wp2_with fail
  go_ret;rw[HF.out];exact⟨_,rfl,Yg (ZO _ _) [o] (m1 _) (by simp) _ _ rfl (by simp) _ rfl⟩
 have aF:(kind==4)=false:=by simpa using ai
 clear ai;have HF:Hid (Y4 ⟨kind,row,at_,n,nodes,slot,old,text⟩ o after=[o]):=by
  show _=_;unfold Y4
  repeat' split
  all_goals first|rfl|(exfalso;simp_all;done)|(exfalso;simp_all;omega)|(simp;done)|(simp;omega)
 go_enter Tryz.func110,Tryz.ntmps110
 go_wp2_with fail
 go_ret;rw[HF.out];exact⟨_,rfl,Yg (ZO _ _) [o] (m1 _) (by simp) _ _ rfl (by simp) _ rfl⟩
