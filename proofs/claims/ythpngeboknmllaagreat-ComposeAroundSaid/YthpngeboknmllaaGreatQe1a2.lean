/- T -/
import Derived.Test.YthpngeboknmllaaGreatQ2f0a
import Derived.Test.YthpngeboknmllaaGreatQdf2c
set_option linter.unusedVariables false
set_option linter.unusedSimpArgs false
set_option maxHeartbeats 4000000
set_option maxRecDepth 100000
namespace Go.Proofs.YthpngeboknmllaaGreat
open Go.RowKit
theorem R4 (w:World) (a b:Nat):∃n,(w.drewN a).drewN b=w.drewN n:=by simp only[World.drewN_drewN];exact⟨_,rfl⟩
theorem Rt (c:Int) (s:ByteArray) (A:Option Addr) (n cap B g o:Nat) (b:Bool) (w:World) (hn:n<=maxLen)
  (c0:w.cell? ⟨g,o,none⟩=some (.int .i64 1)) (c1:w.cell? ⟨g,o+1,none⟩=some (.string s)) (c2:w.cell? ⟨g,o+2,none⟩=some (.int .i64 c)) (c3:w.cell? ⟨g,o+3,none⟩=some (.slice A n cap))
  (k1:w.cell? ⟨B,4,none⟩=some (.int .i64 0)) (k2:w.cell? ⟨B,5,none⟩=some (.func (.func 121) #[] #[]))
  (HT:Hid (∀W,Calls Tryz.prog 121 #[.string s] W fun e w'=>e=.returned (.bool b)/\∃n,w'=W.drewN n)) :
  Calls Tryz.prog 127 #[.pointer (some ⟨B,0,none⟩),.pointer (some ⟨g,o,none⟩)] w fun e w'=>e=.returned (.bool (b&&Zw 1 c n))/\∃n,w'=w.drewN n:=by
 unfold maxLen at hn;cases b
 ·go_enter Tryz.func127,Tryz.ntmps127
  go_wp2_with fail
  go_quiet (exact Calls.quiet_of (HT.out _))
  go_wp2_with fail
  go_ret;exact⟨rfl,_,rfl⟩
 by_cases hc:c=0;rotate_left
 ·have d0:(c==0)=false:=by simpa using hc
  have HF:Hid (Zw 1 c n=false):=by show _=_;unfold Zw;rw[if_neg (by decide),if_pos hc]
  clear hc;go_enter Tryz.func127,Tryz.ntmps127
  go_wp2_with fail
  go_quiet (exact Calls.quiet_of (HT.out _))
  go_wp2_with fail
  go_ret;exact⟨by rw[HF.out];first|done|rfl|(simp;done)|(simp;omega),by first|exact⟨_,rfl⟩|exact R4 _ _ _⟩
 subst hc;by_cases h2:(n:Int)<=200
 ·have d2:decide ((n:Int)<=200)=true:=decide_eq_true h2;have HF:Hid (Zw 1 0 n=true):=by show _=_;unfold Zw;simp;omega
  go_enter Tryz.func127,Tryz.ntmps127
  go_wp2_with fail
  go_quiet (exact Calls.quiet_of (HT.out _))
  go_wp2_with fail
  go_ret;exact⟨by rw[HF.out];first|done|rfl|(simp;done)|(simp;omega),by first|exact⟨_,rfl⟩|exact R4 _ _ _⟩
 have d2:decide ((n:Int)<=200)=false:=decide_eq_false h2;have HF:Hid (Zw 1 0 n=false):=by show _=_;unfold Zw;simp;omega
 go_enter Tryz.func127,Tryz.ntmps127
 go_wp2_with fail
 go_quiet (exact Calls.quiet_of (HT.out _))
 go_wp2_with fail
 go_ret;exact⟨by rw[HF.out];first|done|rfl|(simp;done)|(simp;omega),by first|exact⟨_,rfl⟩|exact R4 _ _ _⟩
theorem UO (k f:Nat) (q:Int) (hk:Hid (2<=k/\k<=11)) (HK:Hid (∀n:Nat,Zw k 0 n=((n:Int)==q))) (he:∀args w,(callFunc f args).run Tryz.prog w=.ok (.enter f args) w) (x1:1<=(k:Int)) (x2:(k:Int)<=12) (x3:(k:Int)<13) (x4:((k:Int)==1)=false) (x5:((k:Int)==12)=false) (x6:k<13) (x7:(0:Int)<=(k:Int)) (c:Int) (s:ByteArray) (A:Option Addr) (n cap B g o:Nat) (b:Bool) (w:World) (hn:n<=maxLen)
  (c0:w.cell? ⟨g,o,none⟩=some (.int .i64 (k:Int))) (c1:w.cell? ⟨g,o+1,none⟩=some (.string s)) (c2:w.cell? ⟨g,o+2,none⟩=some (.int .i64 c)) (c3:w.cell? ⟨g,o+3,none⟩=some (.slice A n cap))
  (k1:w.cell? ⟨B,k*3+1,none⟩=some (.int .i64 q)) (k2:w.cell? ⟨B,k*3+2,none⟩=some (.func (.func f) #[] #[]))
  (HT:Hid (∀W,Calls Tryz.prog f #[.string s] W fun e w'=>e=.returned (.bool b)/\∃n,w'=W.drewN n)) :
  Calls Tryz.prog 127 #[.pointer (some ⟨B,0,none⟩),.pointer (some ⟨g,o,none⟩)] w fun e w'=>e=.returned (.bool (b&&Zw (k:Int) c n))/\∃n,w'=w.drewN n:=by
 unfold maxLen at hn;cases b
 ·go_enter Tryz.func127,Tryz.ntmps127
  go_wp2_with fail
  go_quiet (exact Calls.quiet_of (HT.out _))
  go_wp2_with fail
  go_ret;exact⟨rfl,_,rfl⟩
 by_cases hc:c=0;rotate_left
 ·have d0:(c==0)=false:=by simpa using hc
  have HF:Hid (Zw (k:Int) c n=false):=by show _=_;have:=hk.out;unfold Zw;rw[if_neg (by omega),if_pos hc]
  clear hc;go_enter Tryz.func127,Tryz.ntmps127
  go_wp2_with fail
  go_quiet (exact Calls.quiet_of (HT.out _))
  go_wp2_with fail
  go_quiet (fail)
  go_wp2_with fail
  go_ret;exact⟨by rw[HF.out];first|done|rfl|(simp;done)|(simp;omega),by first|exact⟨_,rfl⟩|exact R4 _ _ _⟩
 subst hc;cases d2:((n:Int)==q)
 ·have HF:Hid (Zw (k:Int) 0 n=false):=by show _=_;rw[HK.out,d2]
  go_enter Tryz.func127,Tryz.ntmps127
  go_wp2_with fail
  go_quiet (exact Calls.quiet_of (HT.out _))
  go_wp2_with fail
  go_quiet (fail)
  go_wp2_with fail
  go_ret;exact⟨by rw[HF.out];first|done|rfl|(simp;done)|(simp;omega),by first|exact⟨_,rfl⟩|exact R4 _ _ _⟩
 have HF:Hid (Zw (k:Int) 0 n=true):=by show _=_;rw[HK.out,d2]
 go_enter Tryz.func127,Tryz.ntmps127
 go_wp2_with fail
 go_quiet (exact Calls.quiet_of (HT.out _))
 go_wp2_with fail
 go_quiet (fail)
 go_wp2_with fail
 go_ret;exact⟨by rw[HF.out];first|done|rfl|(simp;done)|(simp;omega),by first|exact⟨_,rfl⟩|exact R4 _ _ _⟩
