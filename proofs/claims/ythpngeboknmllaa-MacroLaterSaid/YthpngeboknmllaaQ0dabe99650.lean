/- Texts put together. -/
import Derived.Test.YthpngeboknmllaaQ70f6b93c2b
import Derived.IntWalk
set_option linter.unusedVariables false
set_option linter.unusedSimpArgs false
set_option maxRecDepth 100000
namespace Go.Proofs.Ythpngeboknmllaa
open Go.RowKit
set_option maxHeartbeats 4000000 in
theorem place_any (k c:Int) (s:ByteArray) (ts:List Tree) (g o n:Nat) (A:Option Addr) (cap:Nat) (w:World) (hs:s.size≤maxLen) (hn:ts.length = n) (hm:n≤maxLen)
  (c0:w.cell? ⟨g,o,none⟩ = some (.int .i64 k)) (c1:w.cell? ⟨g,o + 1,none⟩ = some (.string s)) (c2:w.cell? ⟨g,o + 2,none⟩ = some (.int .i64 c)) (c3:w.cell? ⟨g,o + 3,none⟩ = some (.slice A n cap)) :
  Calls Try.prog 31 #[.pointer (some ⟨g,o,none⟩)] w fun e w'=>e = .returned (.tuple #[.int .i64 (placeS (.mk k s c ts)).1,.bool (placeS (.mk k s c ts)).2])∧w = w':=by
 unfold maxLen at hs hm
 have HP:Hid (placeS (.mk k s c ts) = if k≠2∨c≠0∨0 < n∨s.size≠2∨(bytes s).getD 0 0≠35 then (0,false) else ((bytes s).getD 1 0 - 48,decide (1≤(bytes s).getD 1 0 - 48) && decide ((bytes s).getD 1 0 - 48≤4))):=by show _ = _;rw [← hn];rfl
 clear hn
 generalize placeS (.mk k s c ts) = RES at *
 by_cases h0:k = 2
 rotate_left
 ·have e0:(k != 2) = true:=by simpa using h0
  have HF:Hid (RES = (0,false)):=by show _ = _;rw [HP.out,if_pos];left;exact h0
  clear h0
  go_enter Try.func31,Try.ntmps31
  go_wp2_with fail
  refine bodyPost_ret (v:=.tuple #[.int .i64 0,.bool false]) (by simp [results,Try.results31,go_sem]) rfl ?_
  exact ⟨by rw [HF.out],rfl⟩
 have e0:(k != 2) = false:=by simpa using h0
 by_cases h1:c = 0
 rotate_left
 ·have e1:(c != 0) = true:=by simpa using h1
  have HF:Hid (RES = (0,false)):=by show _ = _;rw [HP.out,if_pos];right;left;exact h1
  clear h1
  go_enter Try.func31,Try.ntmps31
  go_wp2_with fail
  refine bodyPost_ret (v:=.tuple #[.int .i64 0,.bool false]) (by simp [results,Try.results31,go_sem]) rfl ?_
  exact ⟨by rw [HF.out],rfl⟩
 have e1:(c != 0) = false:=by simpa using h1
 by_cases h2:n = 0
 rotate_left
 ·have e2:decide ((0:Int) < (n:Int)) = true:=by simp;omega
  have e2':decide (0 < n) = true:=by simp;omega
  have HF:Hid (RES = (0,false)):=by show _ = _;rw [HP.out,if_pos];right;right;left;omega
  clear h2
  go_enter Try.func31,Try.ntmps31
  go_wp2_with fail
  refine bodyPost_ret (v:=.tuple #[.int .i64 0,.bool false]) (by simp [results,Try.results31,go_sem]) rfl ?_
  exact ⟨by rw [HF.out],rfl⟩
 have e2:decide ((0:Int) < (n:Int)) = false:=by simp;omega
 have e2':decide (0 < n) = false:=by simp;omega
 by_cases h3:s.size = 2
 rotate_left
 ·have e3:((s.size:Int) != 2) = true:=by simp;omega
  have HF:Hid (RES = (0,false)):=by show _ = _;rw [HP.out,if_pos];right;right;right;left;exact h3
  clear h3
  go_enter Try.func31,Try.ntmps31
  go_wp2_with fail
  refine bodyPost_ret (v:=.tuple #[.int .i64 0,.bool false]) (by simp [results,Try.results31,go_sem]) rfl ?_
  exact ⟨by rw [HF.out],rfl⟩
 have e3:((s.size:Int) != 2) = false:=by simp;omega
 have g0:0 < s.size:=by omega
 have g1:1 < s.size:=by omega
 have HB0:=hid (bytes_getD s 0 g0)
 have HB1:=hid (bytes_getD s 1 g1)
 have i0:(0:Int) < (s.size:Int):=by omega
 have i1:(1:Int) < (s.size:Int):=by omega
 have q0:(s[0].toNat:Int)≤255:=by have:=s[0].toNat_lt;omega
 have q1:(s[1].toNat:Int)≤255:=by have:=s[1].toNat_lt;omega
 by_cases h4:(s[0].toNat:Int) = 35
 rotate_left
 ·have e4:((s[0].toNat:Int) != 35) = true:=by simpa using h4
  have HF:Hid (RES = (0,false)):=by show _ = _;rw [HP.out,if_pos];right;right;right;right;rw [HB0.out];exact h4
  clear h4
  go_enter Try.func31,Try.ntmps31
  go_wp2_with fail
  refine bodyPost_ret (v:=.tuple #[.int .i64 0,.bool false]) (by simp [results,Try.results31,go_sem]) rfl ?_
  exact ⟨by rw [HF.out],rfl⟩
 have e4:((s[0].toNat:Int) != 35) = false:=by simpa using h4
 have HF:Hid (RES = ((s[1].toNat:Int) - 48,decide ((1:Int)≤(s[1].toNat:Int) - 48) && decide ((s[1].toNat:Int) - 48≤4))):=by
  show _ = _
  rw [HP.out,if_neg (by rw [HB0.out];omega),HB1.out]
 obtain ⟨q,hq⟩:∃ q,(s[1].toNat:Int) - 48 = q:=⟨_,rfl⟩
 have v1:IntKind.i64.wrap ((s[1].toNat:Int) - 48) = q:=by rw [hq];exact IntWalk.i64_in _ (by omega)
 have v2:IntKind.i64.wrap (s[1].toNat:Int) = (s[1].toNat:Int):=IntWalk.i64_in _ (by omega)
 rw [hq] at HF
 clear h0 h1 h2 h3 h4 hq HP HB0 HB1
 by_cases h5:1≤q
 ·have d5:decide (1≤q) = true:=by simpa using h5
  by_cases h6:q≤4
  ·have d6:decide (q≤4) = true:=by simpa using h6
   clear h5 h6
   go_enter Try.func31,Try.ntmps31
   go_wp2_with fail
   refine bodyPost_ret (v:=.tuple #[.int .i64 q,.bool true]) (by simp [results,Try.results31,go_sem]) rfl ?_
   exact ⟨by rw [HF.out,d5,d6];rfl,rfl⟩
  ·have d6:decide (q≤4) = false:=by simpa using h6
   clear h5 h6
   go_enter Try.func31,Try.ntmps31
   go_wp2_with fail
   refine bodyPost_ret (v:=.tuple #[.int .i64 q,.bool false]) (by simp [results,Try.results31,go_sem]) rfl ?_
   exact ⟨by rw [HF.out,d5,d6];rfl,rfl⟩
 ·have d5:decide (1≤q) = false:=by simpa using h5
  clear h5
  go_enter Try.func31,Try.ntmps31
  go_wp2_with fail
  refine bodyPost_ret (v:=.tuple #[.int .i64 q,.bool false]) (by simp [results,Try.results31,go_sem]) rfl ?_
  exact ⟨by rw [HF.out,d5];rfl,rfl⟩
end Go.Proofs.Ythpngeboknmllaa
