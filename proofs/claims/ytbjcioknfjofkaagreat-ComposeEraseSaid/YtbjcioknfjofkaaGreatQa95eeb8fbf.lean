/- Texts put together. -/
import Derived.Test.YtbjcioknfjofkaaGreatQfe3dc0b62f
import Derived.Test.YtbjcioknfjofkaaGreatQb55496f77f
import Derived.Test.YtbjcioknfjofkaaGreatQ15642f0ed8
import Derived.RegionTactic
import Derived.BigRegion
import Derived.IntWalk
set_option linter.unusedVariables false
set_option linter.unusedSimpArgs false
set_option maxRecDepth 100000
namespace Go.Proofs.YtbjcioknfjofkaaGreat
open Go.RowKit
def extS (p:List Int):Int:=if p.length = 1 then p.headD 0 else p.headD 0 + 1
set_option maxHeartbeats 1000000 in
theorem zN7 (x:Int) (g o m cap:Nat) (w:World) (a0:w.cell? ⟨g,o,none⟩ = some (.int .i64 x)) (hgl:g < w.heap.size) (m2:0 < m) (hml:m≤9223372036854775807) (hx:0≤x∧x≤1000000) :
  Calls Tryz.prog 177 #[.slice (some ⟨g,o,none⟩) m cap] w fun e w'=>e = .returned (.agg #[.int .i64 x,.int .i64 (if m = 1 then x else x + 1)])∧Below w.heap.size w w':=by
 have m0:(0:Int) < (m:Int):=by omega
 obtain ⟨hx0,hx1⟩:=hx
 by_cases h1:m = 1
 ·have d1:((m:Int) == 1) = true:=by rw [h1];rfl
  rw [if_pos h1]
  clear h1
  go_enter Tryz.func177,Tryz.ntmps177
  go_wp2_with fail
  go_region
  all_goals
   go_wp2_with fail
   exact bodyPost_ret (v:=.agg #[.int .i64 x,.int .i64 x]) (by simp [results,Tryz.results177,go_sem]) rfl ⟨rfl,((Below.refl _ _).alloc (Nat.le_refl _) _).drew⟩
 ·have d1:((m:Int) == 1) = false:=by rw [beq_eq_false_iff_ne];omega
  rw [if_neg h1]
  clear h1
  have wd:IntKind.i64.wrap (x + 1) = x + 1:=IntWalk.i64_in _ (by omega)
  go_enter Tryz.func177,Tryz.ntmps177
  go_wp2_with fail
  go_region
  all_goals
   go_wp2_with fail
   exact bodyPost_ret (v:=.agg #[.int .i64 x,.int .i64 (x + 1)]) (by simp [results,Tryz.results177,go_sem]) rfl ⟨rfl,((Below.refl _ _).alloc (Nat.le_refl _) _).drew⟩
set_option maxHeartbeats 1000000 in
theorem ends_q (p:List Int) (k:Nat) (b:Value) (w:World) (S:Nat→Prop) (hp:zAh w S p b) (hk:k < p.length) (hpl:p.length≤1000000) (hx:0≤p[k]∧p[k]≤1000000) :
  Calls Tryz.prog 82 #[b,.int .i64 k] w fun e w'=>e = .returned (.tuple #[.int .i64 p[k],.int .i64 (extS (p.drop k))])∧∃ n,w' = w.drewN n:=by
 obtain ⟨A,cap,rs,rfl,hcap,hmax,hrd,hls⟩:=hp
 obtain ⟨g,o,rfl,hg,hi,a0⟩:=zB2 hrd hls hk
 have hd:(p.drop k).headD 0 = p[k]:=by rw [List.drop_eq_getElem_cons hk];rfl
 have i0:(k:Int) < (p.length:Int):=by omega
 obtain ⟨hx0,hx1⟩:=hx
 have hpl':(p.length:Int)≤1000000:=by omega
 by_cases h1:p.length = k + 1
 ·have HF:Hid (extS (p.drop k) = p[k]):=by show _ = _;unfold extS;rw [if_pos (by rw [List.length_drop];omega),hd]
  have d1:((p.length:Int) == (k:Int) + 1) = true:=by simp;omega
  rw [HF.out]
  clear hrd hls h1 hd
  generalize p[k] = x at *
  go_enter Tryz.func82,Tryz.ntmps82
  go_wp2_with fail
  go_quiet (fail)
  go_wp2_with fail
  go_ret2
  exact ⟨rfl,_,rfl⟩
 ·have HF:Hid (extS (p.drop k) = p[k] + 1):=by show _ = _;unfold extS;rw [if_neg (by rw [List.length_drop];omega),hd]
  have d1:((p.length:Int) == (k:Int) + 1) = false:=by simp;omega
  rw [HF.out]
  clear hrd hls h1 hd
  generalize p[k] = x at *
  have wd:IntKind.i64.wrap (x + 1) = x + 1:=IntWalk.i64_in _ (by omega)
  go_enter Tryz.func82,Tryz.ntmps82
  go_wp2_with fail
  go_quiet (fail)
  go_wp2_with fail
  go_ret2
  exact ⟨rfl,_,rfl⟩
end Go.Proofs.YtbjcioknfjofkaaGreat
