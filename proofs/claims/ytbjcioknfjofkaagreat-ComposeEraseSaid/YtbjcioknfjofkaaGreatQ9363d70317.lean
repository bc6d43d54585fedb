/- Texts put together. -/
import Derived.Test.YtbjcioknfjofkaaGreatQ15642f0ed8
import Derived.Test.YtbjcioknfjofkaaGreatQ2c794c3567
import Derived.Laws.CopyOwn
import Derived.Lib.Walk
import Derived.Lib.Strings
import Derived.Lib.Bytealg
import Derived.BigGuard
import Derived.BigFrame
import Derived.RegionTactic
import Derived.Lib.IndexLaws
import Derived.Laws.Strings3
import Derived.Deep.QuietTactic
import Derived.BigQuiet
set_option linter.unusedVariables false
set_option linter.unusedSimpArgs false
set_option maxRecDepth 100000
namespace Go.Proofs.YtbjcioknfjofkaaGreat
open Go.RowKit
theorem zK5 {P : Program} (w : World) (dT ty elem : TypeId) (sz g n : Nat) (a : Addr) (sCap : Nat) (cur : Array Value) (T : TypeId) (cs : List Value)
    (hu : P.underlying dT = some (.slice elem)) (hs : (P.info? elem).map (·.size) = some sz) (hg : w.heap[g]? = some (.cells cur T (0, 0))) (hn : cs.length = n * sz)
    (hsrc : ∀ j v, cs[j]? = some v → w.cell? (a.add j) = some v) (hcur : cur.size = cs.length) (h1 : ∀ v ∈ cs, v.oneCell' = true) :
    (Builtin.copy_ #[dT, dT] ty #[.slice (some ⟨g, 0, none⟩) n n, .slice (some a) n sCap]).run P w = .ok (goInt n) (w.setRow g cs.toArray) := by
  have hl := run_loadCells_list (P := P) w a cs hsrc
  have hst := run_storeCells_at P g 0 T cs 0 cur w hg (by omega) h1
  simp only [Nat.add_zero, Nat.zero_add, List.take_zero, List.nil_append] at hst
  have hd : cur.toList.drop cs.length = [] := List.drop_of_length_le (by simp [hcur])
  cases hq : P.info? elem with
  | none => simp [hq] at hs
  | some i =>
    have hi : i.size = sz := by simpa [hq] using hs
    simp [Builtin.copy_, run_underlying hu, Builtin.lenOf, Builtin.firstCells, sizeOf, typeInfo, hq, hi, ← hn, hl, hst, hd]
theorem zE3 {P:Program} {w:World} {ops:Array Oper} {rest:List Oper} {o:Oper} {a:Act} {Q:Exit→Act→World→Prop} (hgd:o.guard = none) (d s:Operand) (dT:TypeId)
  (ho:o.op = .call { callee:=.builtin .copy,args:=#[d,s],argTypes:=#[dT,dT] }) (elem:TypeId) (sz:Nat) (hu:P.underlying dT = some (.slice elem)) (hs:(P.info? elem).map (·.size) = some sz)
  (g n:Nat) (ad:Addr) (sCap:Nat) (hd:a.eval d = .slice (some ⟨g,0,none⟩) n n) (hsv:a.eval s = .slice (some ad) n sCap) (cur:Array Value) (T:TypeId) (cs:List Value) (hg:w.heap[g]? = some (.cells cur T (0,0)))
  (hn:cs.length = n * sz) (hsrc:∀ j v,cs[j]? = some v→w.cell? (ad.add j) = some v) (hcur:cur.size = cs.length) (h1:∀ v ∈ cs,v.oneCell' = true)
  (h:wpList P ops Q rest (a.put o.dst (goInt n)) (w.setRow g cs.toArray)):wpList P ops Q (o :: rest) a w:=by
 refine wpList_plain hgd fun K hK=>?_
 have hrun:=zK5 (P:=P) w dT o.type elem sz g n ad sCap cur T cs hu hs hg hn hsrc hcur h1
 unfold Oper.wp
 simp [execOp,ho,resolve,invoke,builtin,hd,hsv,hrun,Result.andThen]
 exact hK _ _ h
theorem zEy {P : Program} {w : World} {ops : Array Oper} {rest : List Oper} {o : Oper} {a : Act} {Q : Exit → Act → World → Prop} (hgd : o.guard = none) (d s : Operand) (dT : TypeId)
    (ho : o.op = .call { callee := .builtin .copy, args := #[d, s], argTypes := #[dT, dT] }) (elem : TypeId) (sz : Nat) (hu : P.underlying dT = some (.slice elem)) (hs : (P.info? elem).map (·.size) = some sz)
    (A : Option Addr) (c c' : Nat) (hd : a.eval d = .slice none 0 c') (hsv : a.eval s = .slice A 0 c)
    (h : wpList P ops Q rest (a.put o.dst (goInt 0)) w) : wpList P ops Q (o :: rest) a w := by
  refine wpList_plain hgd fun K hK => ?_
  have hrun : (Builtin.copy_ #[dT, dT] o.type #[.slice none 0 c', .slice A 0 c]).run P w = .ok (goInt 0) w := by
    cases hq : P.info? elem with
    | none => simp [hq] at hs
    | some i =>
      have hl : ∀ ad : Addr, (loadCells ad 0).run P w = .ok #[] w := fun ad => by simpa using run_loadCells_list (P := P) w ad [] (fun j v h => by simp at h)
      cases A <;> simp [Builtin.copy_, run_underlying hu, Builtin.lenOf, Builtin.firstCells, sizeOf, typeInfo, hq, hl]
  unfold Oper.wp
  simp [execOp, ho, resolve, invoke, builtin, hd, hsv, hrun, Result.andThen]
  exact hK _ _ h
def ptrV (x:zCo):Value:=.pointer (some ⟨x.1,x.2.1,none⟩)
def zG4 (w:World) (B:Nat) (e:TypeId) (v:Value) (P:List zCo):Prop:=w.ownsRow B e 1 v P.length (P.map ptrV)
theorem zG4.top {w:World} {B:Nat} {e:TypeId} {v:Value} {P:List zCo} {x:zCo} (h:zG4 w B e v (P ++ [x])):∃ g cap,v = .slice (some ⟨g,0,none⟩) (P.length + 1) cap∧B≤g∧g < w.heap.size∧P.length + 1≤cap∧cap≤maxLen∧w.cell? ⟨g,P.length,none⟩ = some (ptrV x)∧zG4 w B e (.slice (some ⟨g,0,none⟩) P.length cap) P:=by
 obtain ⟨hl,h2⟩:=h
 rcases h2 with ⟨_,h0⟩ | ⟨g,cap,cur,rfl,hg,hh,h3,h4,h5,h6⟩
 ·simp at h0
 ·simp only [List.length_append,List.length_cons,List.length_nil,Nat.mul_one,List.map_append,List.map_cons,List.map_nil] at h3 h6 ⊢
  have h7:cur.toList.take P.length = P.map ptrV:=by
   have:=congrArg (List.take P.length) h6
   rw [List.take_take,Nat.min_eq_left (by omega),List.take_append_of_le_length (by simp)] at this
   rw [this]
   exact List.take_of_length_le (by simp)
  have h8:cur.toList[P.length]? = some (ptrV x):=by
   have:=congrArg (·[P.length]?) h6
   simp only [List.getElem?_take] at this
   rw [if_pos (by omega)] at this
   rw [this,List.getElem?_append_right (by simp)]
   simp
  refine ⟨g,cap,rfl,hg,(Array.getElem?_eq_some_iff.1 hh).1,by omega,h4,?_,by simp,.inr ⟨g,cap,cur,rfl,hg,hh,by omega,h4,h5,by simpa using h7⟩⟩
  rw [cell_of_row w g P.length cur e (0,0) hh]
  simpa using h8
theorem zFt (s:ByteArray) (w:World):Calls Tryz.prog 117 #[.string s] w fun e w'=>e = .returned (.bool s.toList.isEmpty)∧w = w':=by
 cases hq:s.toList.isEmpty
 all_goals
  go_enter Tryz.func117,Tryz.ntmps117
  go_wp2_with fail
  go_ret
  exact ⟨rfl,rfl⟩
set_option maxHeartbeats 400000 in
theorem digits_q (s:ByteArray) (w:World) (hs:s.size≤maxLen) :
  Calls Tryz.prog 163 #[.string s] w fun e w'=>e = .returned (.bool ((bytes s).all zBx && !s.toList.isEmpty))∧w = w':=by
 unfold maxLen at hs
 go_enter Tryz.func163,Tryz.ntmps163
 go_wp2
 go_loop [3] (fun i=>∃ k:Nat,k≤s.size∧i = .int .i64 k∧((bytes s).drop k).all zBx = (bytes s).all zBx) (fun i=>s.size - (intOf i).toNat)
 case atStart=>exact ⟨0,Nat.zero_le _,rfl,rfl⟩
 case round =>
  obtain ⟨k,hk,rfl,hrest⟩:=hrel
  have HR:=hid hrest
  clear hrest
  by_cases hlt:k < s.size
  ·have HN:=hid (zCw s k hlt)
   by_cases h1:(s[k].toNat:Int) < 48
   ·have HF:Hid ((bytes s).all zBx = false):=by show _ = _;rw [← HR.out,HN.out,List.all_cons,zBx,decide_eq_false (by omega)];rfl
    go_wp2
    go_ret
    exact ⟨by rw [HF.out];rfl,rfl⟩
   ·have d1:decide ((s[k].toNat:Int) < 48) = false:=by simpa using h1
    by_cases h2:57 < (s[k].toNat:Int)
    ·have HF:Hid ((bytes s).all zBx = false):=by show _ = _;rw [← HR.out,HN.out,List.all_cons,zBx,decide_eq_false (by omega)];rfl
     go_wp2
     go_ret
     exact ⟨by rw [HF.out];rfl,rfl⟩
    ·have d2:decide (57 < (s[k].toNat:Int)) = false:=by simpa using h2
     have HF:Hid (((bytes s).drop (k + 1)).all zBx = (bytes s).all zBx):=by show _ = _;rw [← HR.out,HN.out,List.all_cons,zBx,decide_eq_true (show 48≤(s[k].toNat:Int)∧(s[k].toNat:Int)≤57 by omega)];rfl
     go_wp2
     go_round
     case rel=>exact ⟨k + 1,by omega,by go_num,HF.out⟩
     case measure=>simp [intOf];omega
  ·have HF:Hid ((bytes s).all zBx = true):=by show _ = _;rw [← HR.out,zB9 s k hlt];rfl
   cases hq:s.toList.isEmpty
   all_goals
    go_wp2
    go_ret
    exact ⟨by first | rfl | (rw [HF.out];rfl),rfl⟩
def zF4 (s:ByteArray):Bool:=decide (s.size≤200) && zA1 (bytes s)
set_option maxHeartbeats 400000 in
theorem plain_q (s:ByteArray) (w:World) (hs:s.size≤maxLen) :
  Calls Tryz.prog 120 #[.string s] w fun e w'=>e = .returned (.bool (zF4 s))∧w = w':=by
 unfold maxLen at hs
 go_enter Tryz.func120,Tryz.ntmps120
 go_wp2
 go_loop [3] (fun i=>∃ k:Nat,k≤s.size∧i = .int .i64 k∧zA1 ((bytes s).drop k) = zA1 (bytes s)) (fun i=>s.size - (intOf i).toNat)
 case atStart=>exact ⟨0,Nat.zero_le _,rfl,rfl⟩
 case round =>
  obtain ⟨k,hk,rfl,hrest⟩:=hrel
  have HR:=hid hrest
  clear hrest
  by_cases hlt:k < s.size
  ·have HN:=hid (zCw s k hlt)
   by_cases h1:(s[k].toNat:Int) < 32
   ·have HF:Hid (zF4 s = false):=by show _ = _;rw [zF4,← HR.out,HN.out,zA1,List.all_cons,decide_eq_false (show ¬ (32≤(s[k].toNat:Int)∧(s[k].toNat:Int)≤126) by omega)];simp
    go_wp2
    go_ret
    exact ⟨by rw [HF.out];rfl,rfl⟩
   ·have d1:decide ((s[k].toNat:Int) < 32) = false:=by simpa using h1
    by_cases h2:126 < (s[k].toNat:Int)
    ·have HF:Hid (zF4 s = false):=by show _ = _;rw [zF4,← HR.out,HN.out,zA1,List.all_cons,decide_eq_false (show ¬ (32≤(s[k].toNat:Int)∧(s[k].toNat:Int)≤126) by omega)];simp
     go_wp2
     go_ret
     exact ⟨by rw [HF.out];rfl,rfl⟩
    ·have d2:decide (126 < (s[k].toNat:Int)) = false:=by simpa using h2
     have HF:Hid (zA1 ((bytes s).drop (k + 1)) = zA1 (bytes s)):=by show _ = _;rw [← HR.out,HN.out,zA1,zA1,List.all_cons,decide_eq_true (show 32≤(s[k].toNat:Int)∧(s[k].toNat:Int)≤126 by omega)];rfl
     go_wp2
     go_round
     case rel=>exact ⟨k + 1,by omega,by go_num,HF.out⟩
     case measure=>simp [intOf];omega
  ·have HP:Hid (zA1 (bytes s) = true):=by show _ = _;rw [← HR.out,zB9 s k hlt];rfl
   by_cases h3:s.size≤200
   ·have HF:Hid (zF4 s = true):=by show _ = _;rw [zF4,HP.out,decide_eq_true h3];rfl
    go_wp2
    go_ret
    exact ⟨by rw [HF.out];first | done | rfl | (simp;omega),rfl⟩
   ·have HF:Hid (zF4 s = false):=by show _ = _;rw [zF4,HP.out,decide_eq_false h3];rfl
    have d3:decide ((s.size:Int)≤200) = false:=by simp;omega
    go_wp2
    go_ret
    exact ⟨by rw [HF.out];first | done | rfl | (simp;omega),rfl⟩
theorem or32:∀ n:Fin 256,zA6 (n.val:Int) = decide (97≤bits BinOp.or IntKind.u8 (n.val:Int) 32∧bits BinOp.or IntKind.u8 (n.val:Int) 32≤122):=by decide +kernel
theorem or32' (b:UInt8):zA6 (b.toNat:Int) = decide (97≤bits BinOp.or IntKind.u8 (b.toNat:Int) 32∧bits BinOp.or IntKind.u8 (b.toNat:Int) 32≤122):=or32 ⟨b.toNat,b.toNat_lt⟩
set_option maxHeartbeats 400000 in
theorem zLk (s:ByteArray) (w:World) (hs:s.size≤maxLen) :
  Calls Tryz.prog 159 #[.string s] w fun e w'=>e = .returned (.bool ((bytes s).all zA6))∧w = w':=by
 unfold maxLen at hs
 go_enter Tryz.func159,Tryz.ntmps159
 go_wp2
 go_loop [3] (fun i=>∃ k:Nat,k≤s.size∧i = .int .i64 k∧((bytes s).drop k).all zA6 = (bytes s).all zA6) (fun i=>s.size - (intOf i).toNat)
 case atStart=>exact ⟨0,Nat.zero_le _,rfl,rfl⟩
 case round =>
  obtain ⟨k,hk,rfl,hrest⟩:=hrel
  have HR:=hid hrest
  clear hrest
  by_cases hlt:k < s.size
  ·have HN:=hid (zCw s k hlt)
   have HO:=hid (or32' s[k])
   by_cases h1:bits BinOp.or IntKind.u8 (s[k].toNat:Int) 32 < 97
   ·have HF:Hid ((bytes s).all zA6 = false):=by show _ = _;rw [← HR.out,HN.out,List.all_cons,HO.out,decide_eq_false (by omega)];rfl
    go_wp2
    go_ret
    exact ⟨by rw [HF.out];rfl,rfl⟩
   ·have d1:decide (bits BinOp.or IntKind.u8 (s[k].toNat:Int) 32 < 97) = false:=by simpa using h1
    by_cases h2:122 < bits BinOp.or IntKind.u8 (s[k].toNat:Int) 32
    ·have HF:Hid ((bytes s).all zA6 = false):=by show _ = _;rw [← HR.out,HN.out,List.all_cons,HO.out,decide_eq_false (by omega)];rfl
     go_wp2
     go_ret
     exact ⟨by rw [HF.out];rfl,rfl⟩
    ·have d2:decide (122 < bits BinOp.or IntKind.u8 (s[k].toNat:Int) 32) = false:=by simpa using h2
     have HF:Hid (((bytes s).drop (k + 1)).all zA6 = (bytes s).all zA6):=by show _ = _;rw [← HR.out,HN.out,List.all_cons,HO.out,decide_eq_true (by omega)];rfl
     go_wp2
     go_round
     case rel=>exact ⟨k + 1,by omega,by go_num,HF.out⟩
     case measure=>simp [intOf];omega
  ·have HF:Hid ((bytes s).all zA6 = true):=by show _ = _;rw [← HR.out,zB9 s k hlt];rfl
   go_wp2
   go_ret
   exact ⟨by rw [HF.out];rfl,rfl⟩
theorem zAz {s t:ByteArray} (h:s.toList = t.toList):s = t:=by
 rw [Lib.toList_data,Lib.toList_data] at h
 exact ByteArray.ext (Array.toList_inj.1 h)
theorem zNm:∀ x ∈ zBi,inS zBi x = true:=by decide +kernel
set_option maxHeartbeats 1000000 in
theorem zOb (s:ByteArray) (w:World):Calls Tryz.prog 121 #[.string s] w fun e w'=>e = .returned (.bool (inS zBi s))∧w = w':=by
 by_cases h:s ∈ zBi
 ·have HF:=hid (zNm s h)
  rw [HF.out]
  clear HF
  unfold zBi at h
  simp only [List.mem_cons,List.not_mem_nil,or_false] at h
  rcases h with rfl | rfl | rfl | rfl | rfl | rfl
  all_goals
   go_enter Tryz.func121,Tryz.ntmps121
   go_wp2
   go_ret
   exact ⟨rfl,rfl⟩
 ·have HF:Hid (inS zBi s = false):=by
   show _ = _
   unfold inS
   rw [List.any_eq_false]
   intro x hx hxs
   exact h (by have:=zAz (beq_iff_eq.1 hxs);rw [← this];exact hx)
  rw [HF.out]
  unfold zBi at h
  simp only [List.mem_cons,List.not_mem_nil,or_false,not_or] at h
  obtain ⟨n0,n1,n2,n3,n4,n5⟩:=h
  have m0:(s.toList == [104,97,116]) = false:=by rw [beq_eq_false_iff_ne];intro e;exact n0 (zAz (e.trans (by decide +kernel)))
  have l0:([104,97,116] == s.toList) = false:=by rw [beq_eq_false_iff_ne];intro e;exact n0 (zAz (e.symm.trans (by decide +kernel)))
  have m1:(s.toList == [98,97,114]) = false:=by rw [beq_eq_false_iff_ne];intro e;exact n1 (zAz (e.trans (by decide +kernel)))
  have l1:([98,97,114] == s.toList) = false:=by rw [beq_eq_false_iff_ne];intro e;exact n1 (zAz (e.symm.trans (by decide +kernel)))
  have m2:(s.toList == [118,101,99]) = false:=by rw [beq_eq_false_iff_ne];intro e;exact n2 (zAz (e.trans (by decide +kernel)))
  have l2:([118,101,99] == s.toList) = false:=by rw [beq_eq_false_iff_ne];intro e;exact n2 (zAz (e.symm.trans (by decide +kernel)))
  have m3:(s.toList == [100,111,116]) = false:=by rw [beq_eq_false_iff_ne];intro e;exact n3 (zAz (e.trans (by decide +kernel)))
  have l3:([100,111,116] == s.toList) = false:=by rw [beq_eq_false_iff_ne];intro e;exact n3 (zAz (e.symm.trans (by decide +kernel)))
  have m4:(s.toList == [116,105,108,100,101]) = false:=by rw [beq_eq_false_iff_ne];intro e;exact n4 (zAz (e.trans (by decide +kernel)))
  have l4:([116,105,108,100,101] == s.toList) = false:=by rw [beq_eq_false_iff_ne];intro e;exact n4 (zAz (e.symm.trans (by decide +kernel)))
  have m5:(s.toList == [99,104,101,99,107]) = false:=by rw [beq_eq_false_iff_ne];intro e;exact n5 (zAz (e.trans (by decide +kernel)))
  have l5:([99,104,101,99,107] == s.toList) = false:=by rw [beq_eq_false_iff_ne];intro e;exact n5 (zAz (e.symm.trans (by decide +kernel)))
  clear n0 n1 n2 n3 n4 n5
  go_enter Tryz.func121,Tryz.ntmps121
  go_wp2
  go_ret
  exact ⟨rfl,rfl⟩
theorem zLq:∀ x ∈ zBm,inS zBm x = true:=by decide +kernel
set_option maxHeartbeats 1000000 in
theorem zQc (s:ByteArray) (w:World):Calls Tryz.prog 161 #[.string s] w fun e w'=>e = .returned (.bool (inS zBm s))∧w = w':=by
 by_cases h:s ∈ zBm
 ·have HF:=hid (zLq s h)
  rw [HF.out]
  clear HF
  unfold zBm at h
  simp only [List.mem_cons,List.not_mem_nil,or_false] at h
  rcases h with rfl | rfl | rfl | rfl
  all_goals
   go_enter Tryz.func161,Tryz.ntmps161
   go_wp2
   go_ret
   exact ⟨rfl,rfl⟩
 ·have HF:Hid (inS zBm s = false):=by
   show _ = _
   unfold inS
   rw [List.any_eq_false]
   intro x hx hxs
   exact h (by have:=zAz (beq_iff_eq.1 hxs);rw [← this];exact hx)
  rw [HF.out]
  unfold zBm at h
  simp only [List.mem_cons,List.not_mem_nil,or_false,not_or] at h
  obtain ⟨n0,n1,n2,n3⟩:=h
  have m0:(s.toList == [102,114,97,99]) = false:=by rw [beq_eq_false_iff_ne];intro e;exact n0 (zAz (e.trans (by decide +kernel)))
  have l0:([102,114,97,99] == s.toList) = false:=by rw [beq_eq_false_iff_ne];intro e;exact n0 (zAz (e.symm.trans (by decide +kernel)))
  have m1:(s.toList == [114,111,111,116]) = false:=by rw [beq_eq_false_iff_ne];intro e;exact n1 (zAz (e.trans (by decide +kernel)))
  have l1:([114,111,111,116] == s.toList) = false:=by rw [beq_eq_false_iff_ne];intro e;exact n1 (zAz (e.symm.trans (by decide +kernel)))
  have m2:(s.toList == [109,97,116,114,105,120]) = false:=by rw [beq_eq_false_iff_ne];intro e;exact n2 (zAz (e.trans (by decide +kernel)))
  have l2:([109,97,116,114,105,120] == s.toList) = false:=by rw [beq_eq_false_iff_ne];intro e;exact n2 (zAz (e.symm.trans (by decide +kernel)))
  have m3:(s.toList == [102,101,110,99,101]) = false:=by rw [beq_eq_false_iff_ne];intro e;exact n3 (zAz (e.trans (by decide +kernel)))
  have l3:([102,101,110,99,101] == s.toList) = false:=by rw [beq_eq_false_iff_ne];intro e;exact n3 (zAz (e.symm.trans (by decide +kernel)))
  clear n0 n1 n2 n3
  go_enter Tryz.func161,Tryz.ntmps161
  go_wp2
  go_ret
  exact ⟨rfl,rfl⟩
theorem zH9 (s:ByteArray) (c:Int) (w:World) :
  Calls Tryz.prog 181 #[.string s,.int .u8 c] w fun e w'=>e = .returned (.int .i64 (Lib.indexByte s.data.toList c.toNat.toUInt8))∧w' = w:=by
 go_enter Tryz.func181,Tryz.ntmps181
 go_wp2
 rw [run_callFunc_extern Tryz.func184 (by kernel_rfl) (by kernel_rfl) (by kernel_rfl) (e:=Extern.BytealgIndexByte.indexByte) (by kernel_rfl),Lib.run_indexByteString]
 simp only [Result.andThen]
 rw [Oper.upon_value]
 go_wp2
 go_ret
 exact ⟨rfl,rfl⟩
theorem zEc (s:ByteArray) (c:Int) (w:World) :
  Calls Tryz.prog 164 #[.string s,.int .u8 c] w fun e w'=>e = .returned (.int .i64 (Lib.indexByte s.data.toList c.toNat.toUInt8))∧w' = w:=by
 go_enter Tryz.func164,Tryz.ntmps164
 go_wp2_with fail
 refine (zH9 _ _ _).mono ?_
 rintro e w' ⟨rfl,rfl⟩
 go_wp2_with fail
 go_ret
 exact ⟨rfl,rfl⟩
theorem zLs (s:ByteArray) (c:UInt8) (w:World) :
  Calls Tryz.prog 183 #[.string s,.string ⟨#[c]⟩] w fun e w'=>e = .returned (.int .i64 (Lib.indexByte s.data.toList c))∧w' = w:=by
 go_enter Tryz.func183,Tryz.ntmps183
 go_wp2_with (go_at_call 181;refine (zH9 _ _ _).mono ?_;rintro e w' ⟨rfl,rfl⟩)
 ·have h:([c] == s.toList) = true:=by assumption
  go_ret
  refine ⟨?_,rfl⟩
  have e:s.data.toList = [c]:=by rw [← Lib.toList_data];exact (beq_iff_eq.1 h).symm
  rw [e]
  simp [Lib.indexByte]
 ·go_ret
  exact ⟨rfl,rfl⟩
theorem zKx (s:ByteArray) (c:UInt8) (w:World) :
  Calls Tryz.prog 179 #[.string s,.string ⟨#[c]⟩] w fun e w'=>e = .returned (.int .i64 (Lib.indexByte s.data.toList c))∧w' = w:=by
 go_enter Tryz.func179,Tryz.ntmps179
 go_wp2_with fail
 refine (zLs _ _ _).mono ?_
 rintro e w' ⟨rfl,rfl⟩
 go_wp2_with fail
 go_ret
 exact ⟨rfl,rfl⟩
theorem zL4 (s:ByteArray) (c:UInt8) (w:World) :
  Calls Tryz.prog 160 #[.string s,.string ⟨#[c]⟩] w fun e w'=>e = .returned (.bool (decide (0≤Lib.indexByte s.data.toList c)))∧w' = w:=by
 have HC:=hid (zKx s c w)
 generalize Lib.indexByte s.data.toList c = i at *
 by_cases h:0≤i
 ·rw [decide_eq_true h]
  go_enter Tryz.func160,Tryz.ntmps160
  go_wp2_with fail
  refine HC.out.mono ?_
  rintro e w' ⟨rfl,rfl⟩
  go_wp2_with fail
  go_ret
  exact ⟨rfl,rfl⟩
 ·rw [decide_eq_false h]
  have hd:decide (0≤i) = false:=decide_eq_false h
  go_enter Tryz.func160,Tryz.ntmps160
  go_wp2_with fail
  refine HC.out.mono ?_
  rintro e w' ⟨rfl,rfl⟩
  go_wp2_with fail
  go_ret
  exact ⟨by first | rfl | (simp;done) | (simp;omega),rfl⟩
def CutPost (w:World) (s:ByteArray) (e:Ending) (w':World):Prop :=
 (∃ n,w' = w.drewN n)∧((Lib.indexByte s.data.toList 46 = -1∧e = .returned (.tuple #[.string s,.string ⟨#[]⟩,.bool false])) ∨
  ∃ i:Nat,Lib.indexByte s.data.toList 46 = i∧i < s.size∧e = .returned (.tuple #[.string (s.extract 0 i),.string (s.extract (i + 1) s.size),.bool true]))
theorem zE7 (s:ByteArray) (c:UInt8):Lib.indexByte s.data.toList c = -1∨∃ i:Nat,Lib.indexByte s.data.toList c = i∧i < s.size:=by
 have h:=Lib.indexByte_ge s.data.toList c
 by_cases h1:Lib.indexByte s.data.toList c = -1
 ·exact .inl h1
 ·refine .inr ⟨(Lib.indexByte s.data.toList c).toNat,by omega,?_⟩
  have:=(Lib.indexByte_some (l:=s.data.toList) (c:=c) (o:=(Lib.indexByte s.data.toList c).toNat) (by omega)).1
  have h3:=(List.getElem?_eq_some_iff.1 this).1
  simpa using h3
set_option maxHeartbeats 2000000 in
theorem cut_dot (s:ByteArray) (w:World) (hs:s.size≤maxLen):Calls Tryz.prog 180 #[.string s,.string ⟨#[46]⟩] w (CutPost w s):=by
 have HI:=hid (zLs s 46 w)
 unfold maxLen at hs
 rcases zE7 s 46 with hi | ⟨i,hi,hlt⟩
 ·have HE:=hid hi
  rw [hi] at HI
  clear hi
  go_enter Tryz.func180,Tryz.ntmps180
  go_wp2_with fail
  refine HI.out.mono ?_
  rintro e w' ⟨rfl,rfl⟩
  go_wp2_with fail
  go_ret3
  exact ⟨⟨0,rfl⟩,.inl ⟨HE.out,rfl⟩⟩
 ·have HE:=hid hi
  rw [hi] at HI
  clear hi
  have c1:(0:Int)≤↑i:=by omega
  have c2:(↑i:Int)≤↑s.size:=by omega
  have c3:(0:Int)≤↑i + 1:=by omega
  have c4:(↑i + 1:Int)≤↑s.size:=by omega
  go_enter Tryz.func180,Tryz.ntmps180
  go_wp2_with fail
  refine HI.out.mono ?_
  rintro e w' ⟨rfl,rfl⟩
  go_wp2_with fail
  go_region
  go_wp2
  go_ret3
  exact ⟨⟨1,rfl⟩,.inr ⟨i,HE.out,hlt,rfl⟩⟩
set_option maxHeartbeats 1000000 in
theorem zIz (s:ByteArray) (w:World) (hs:s.size≤maxLen):Calls Tryz.prog 162 #[.string s,.string ⟨#[46]⟩] w (CutPost w s):=by
 have HI:=hid (cut_dot s w hs)
 go_enter Tryz.func162,Tryz.ntmps162
 go_wp2_with fail
 refine HI.out.mono ?_
 rintro e w' ⟨⟨n,rfl⟩,(⟨hi,rfl⟩ | ⟨i,hi,hlt,rfl⟩)⟩
 ·have HE:=hid hi
  clear hi
  go_wp2_with fail
  go_ret3
  exact ⟨⟨n,rfl⟩,.inl ⟨HE.out,rfl⟩⟩
 ·have HE:=hid hi
  clear hi
  go_wp2_with fail
  go_ret3
  exact ⟨⟨n,rfl⟩,.inr ⟨i,HE.out,hlt,rfl⟩⟩
def digs (l:List Int):Bool:=l.all zBx && !l.isEmpty
theorem zKg (n : Nat) : ∀ (l : List Int) (k p : Nat), (46 : Int) ∉ l → zDp n l k p = if l.all zBx = true then some p else none
  | [], k, p, _ => by simp [zDp]
  | c :: l, k, p, h => by
    simp only [List.mem_cons, not_or] at h
    rw [zDp, if_neg (fun e => h.1 e.1.symm), List.all_cons]
    cases hd : zBx c with
    | true => rw [if_pos rfl, zKg n l _ _ h.2]; simp
    | false => simp
theorem zLh (n : Nat) (b : List Int) : ∀ (a : List Int) (k p : Nat), (46 : Int) ∉ a → zDp n (a ++ 46 :: b) k p = if a.all zBx = true ∧ 0 < k + a.length ∧ k + a.length + 1 < n then zDp n b (k + a.length + 1) (p + 1) else none
  | [], k, p, _ => by
    rw [List.nil_append, zDp]
    by_cases h : 0 < k ∧ k + 1 < n
    · rw [if_pos ⟨rfl, h⟩, if_pos ⟨rfl, by simpa using h⟩]; simp
    · rw [if_neg (fun e => h e.2), if_neg (by decide), if_neg (fun e => h (by simpa using e.2))]
  | c :: a, k, p, h => by
    simp only [List.mem_cons, not_or] at h
    rw [List.cons_append, zDp, if_neg (fun e => h.1 e.1.symm), List.all_cons]
    cases hd : zBx c with
    | true =>
      rw [if_pos rfl, zLh n b a _ _ h.2, List.length_cons, Bool.true_and, show k + 1 + a.length = k + (a.length + 1) by omega]
    | false => simp
theorem zHy (n : Nat) : ∀ (l : List Int) (k p : Nat), 1 ≤ p → (∃ q, zDp n l k p = some q ∧ q ≤ 1) → p ≤ 1 ∧ l.all zBx = true
  | [], k, p, hp, ⟨q, h, hq⟩ => by simp [zDp] at h; subst h; exact ⟨hq, rfl⟩
  | c :: l, k, p, hp, ⟨q, h, hq⟩ => by
    rw [zDp] at h
    split at h
    · have := (zHy n l (k + 1) (p + 1) (by omega) ⟨q, h, hq⟩).1; omega
    · split at h
      · rename_i hd
        have := zHy n l (k + 1) p hp ⟨q, h, hq⟩
        exact ⟨this.1, by rw [List.all_cons, hd, this.2]; rfl⟩
      · cases h
theorem zG7 {l:List Int} (h:l.all zBx = true):(46:Int) ∉ l:=by
 intro hm
 rw [List.all_eq_true] at h
 exact absurd (h _ hm) (by decide)
theorem zGg (s:ByteArray) (a b:Nat):bytes (s.extract a b) = ((bytes s).drop a).take (b - a):=by
 unfold bytes;rw [Lib.extract_data,List.map_take,List.map_drop]
theorem zHx (s : ByteArray) (h : Lib.indexByte s.data.toList 46 = -1) : zDr s = (decide (s.size ≤ 20) && digs (bytes s)) := by
  have h46 : (46 : Int) ∉ bytes s := by
    intro hm
    unfold bytes at hm
    obtain ⟨b, hb, e⟩ := List.mem_map.1 hm
    obtain ⟨k, hk⟩ := List.getElem?_of_mem hb
    have hb' : b = 46 := by
      have : b.toNat = 46 := by omega
      exact UInt8.toNat_inj.1 this
    exact Lib.indexByte_none h k (by rw [hk, hb'])
  unfold zDr
  rw [zKg _ _ _ _ h46, digs]
  have hl := zEr s
  cases ha : (bytes s).all zBx with
  | false => simp
  | true =>
    rw [if_pos rfl]
    show decide (0 < s.size ∧ s.size ≤ 20 ∧ 0 ≤ 1) = _
    by_cases h0 : s.size = 0
    · have : bytes s = [] := List.eq_nil_of_length_eq_zero (by omega)
      rw [this]; simp [h0]
    · have : (bytes s).isEmpty = false := by rw [List.isEmpty_eq_false_iff]; intro e; rw [e] at hl; simp at hl; omega
      rw [this, Bool.eq_iff_iff]
      simp; omega
theorem zHw (s : ByteArray) (i : Nat) (h : Lib.indexByte s.data.toList 46 = i) (hi : i < s.size) :
    zDr s = (decide (s.size ≤ 20) && (digs (bytes (s.extract 0 i)) && digs (bytes (s.extract (i + 1) s.size)))) := by
  have hl := zEr s
  obtain ⟨g1, g2⟩ := Lib.indexByte_some h
  have hsplit : bytes s = (bytes s).take i ++ 46 :: (bytes s).drop (i + 1) := by
    conv => lhs; rw [← List.take_append_drop i (bytes s)]
    rw [zCw s i hi]
    have : (s[i].toNat : Int) = 46 := by
      have hx : s.data.toList[i]? = some s[i] := by rw [List.getElem?_eq_getElem (by simpa using hi)]; rfl
      rw [hx] at g1; injection g1 with g1; rw [g1]; rfl
    rw [this]
  have h46 : (46 : Int) ∉ (bytes s).take i := by
    intro hm
    obtain ⟨k, hk⟩ := List.getElem?_of_mem hm
    rw [List.getElem?_take] at hk
    split at hk
    · rename_i hki
      unfold bytes at hk
      rw [List.getElem?_map] at hk
      obtain ⟨b, hb, e⟩ := Option.map_eq_some_iff.1 hk
      have hb' : b = 46 := by
        have : b.toNat = 46 := by omega
        exact UInt8.toNat_inj.1 this
      exact g2 k hki (by rw [hb, hb'])
    · cases hk
  rw [zGg, zGg, List.drop_zero, Nat.sub_zero, List.take_of_length_le (l := (bytes s).drop (i + 1)) (by rw [List.length_drop, hl]; omega)]
  generalize hb : (bytes s).drop (i + 1) = b at *
  have hblen : b.length = s.size - (i + 1) := by rw [← hb, List.length_drop, hl]
  have halen : ((bytes s).take i).length = i := by rw [List.length_take, hl]; omega
  generalize ha : (bytes s).take i = a at *
  unfold zDr
  rw [hsplit, zLh _ _ _ _ _ h46, halen]
  have ea : a.isEmpty = decide (i = 0) := by rw [Bool.eq_iff_iff, List.isEmpty_iff_length_eq_zero, halen]; simp
  have eb : b.isEmpty = decide (¬ i + 1 < s.size) := by rw [Bool.eq_iff_iff, List.isEmpty_iff_length_eq_zero, hblen]; simp; omega
  unfold digs
  rw [ea, eb]
  by_cases hc : a.all zBx = true ∧ 0 < 0 + i ∧ 0 + i + 1 < s.size
  · rw [if_pos hc]
    obtain ⟨c1, c2, c3⟩ := hc
    rw [c1, decide_eq_false (show ¬ i = 0 by omega), decide_eq_false (show ¬ ¬ i + 1 < s.size by omega)]
    cases hbd : b.all zBx with
    | true =>
      rw [zKg _ _ _ _ (zG7 hbd), if_pos hbd]
      show decide (0 < s.size ∧ s.size ≤ 20 ∧ 0 + 1 ≤ 1) = _
      rw [Bool.eq_iff_iff]; simp; omega
    | false =>
      have hno : ¬ ∃ q, zDp s.size b (0 + i + 1) (0 + 1) = some q ∧ q ≤ 1 := fun h => by
        have := (zHy _ _ _ _ (by omega) h).2
        rw [hbd] at this; cases this
      cases hq : zDp s.size b (0 + i + 1) (0 + 1) with
      | none => simp
      | some q =>
        have : ¬ q ≤ 1 := fun h => hno ⟨q, hq, h⟩
        show decide (0 < s.size ∧ s.size ≤ 20 ∧ q ≤ 1) = _
        rw [decide_eq_false (fun e => this e.2.2)]; simp
  · rw [if_neg hc]
    show false = _
    symm
    rw [Bool.eq_false_iff]
    intro h
    simp only [Bool.and_eq_true, Bool.not_eq_true', decide_eq_true_eq, decide_eq_false_iff_not] at h
    exact hc ⟨h.2.1.1, by omega, by omega⟩
theorem digs_eq (s:ByteArray):digs (bytes s) = ((bytes s).all zBx && !s.toList.isEmpty):=by
 unfold digs
 congr 2
 rw [Lib.toList_data];unfold bytes;rw [Bool.eq_iff_iff];simp
theorem zPj:∀ n:Fin 256,decide (0≤Lib.indexByte [43,45,42,47,61,60,62,44,59,58,33,124,39,63,126,64] (UInt8.ofNat n.val)) = hasS (bytes zDz) (n.val:Int):=by decide +kernel
theorem zO0:∀ n:Fin 256,decide (0≤Lib.indexByte [40,41,91,93,123,125,60,62,47,124,46] (UInt8.ofNat n.val)) = hasS (bytes zB7) (n.val:Int):=by decide +kernel
theorem zOi (c:UInt8):decide (0≤Lib.indexByte [43,45,42,47,61,60,62,44,59,58,33,124,39,63,126,64] c) = hasS (bytes zDz) (c.toNat:Int):=by
 have:=zPj ⟨c.toNat,c.toNat_lt⟩
 simpa using this
theorem zIi (c:UInt8):decide (0≤Lib.indexByte [40,41,91,93,123,125,60,62,47,124,46] (((c.toNat:Int)).toNat.toUInt8)) = hasS (bytes zB7) (c.toNat:Int):=by
 have:=zO0 ⟨c.toNat,c.toNat_lt⟩
 simpa using this
theorem one_byte (s:ByteArray) (h:s.size = 1):∃ c,s = ⟨#[c]⟩:=by
 obtain ⟨⟨l⟩⟩:=s
 match l,h with
 | [c],_=>exact ⟨c,rfl⟩
set_option maxHeartbeats 2000000 in
theorem zP8 (s:ByteArray) (w:World) (hs:s.size≤maxLen) :
  Calls Tryz.prog 118 #[.string s] w fun e w'=>e = .returned (.bool (zCy s))∧w = w':=by
 by_cases h1:s.size = 1
 ·obtain ⟨c,rfl⟩:=one_byte s h1
  have HL:=hid (zLk ⟨#[c]⟩ w hs)
  have HC:=hid (zL4 zDz c w)
  have e1:(bytes ⟨#[c]⟩).all zA6 = zA6 (c.toNat:Int):=by simp [bytes]
  have e2:decide (0≤Lib.indexByte zDz.data.toList c) = hasS (bytes zDz) (c.toNat:Int):=zOi c
  have HF:Hid (zCy ⟨#[c]⟩ = (zA6 (c.toNat:Int) || hasS (bytes zDz) (c.toNat:Int))):=by
   show _ = _
   unfold zCy;rw [if_pos h1]
   simp [zEq,bytes]
  rw [e1] at HL
  rw [e2] at HC
  rw [HF.out]
  clear e1 e2 HF h1
  generalize zA6 (c.toNat:Int) = b1 at *
  generalize hasS (bytes zDz) (c.toNat:Int) = b2 at *
  unfold zDz at HC
  cases b1 <;> cases b2
  all_goals
   go_enter Tryz.func118,Tryz.ntmps118
   go_wp2_with fail
   refine HL.out.mono ?_
   rintro e w' ⟨rfl,rfl⟩
   go_wp2_with fail
   try (refine HC.out.mono ?_;rintro e w' ⟨rfl,rfl⟩;go_wp2_with fail)
   go_ret
   exact ⟨rfl,rfl⟩
 ·have HS:Hid (zCy s = ((bytes s).all zA6 && decide (2≤s.size) && decide (s.size≤16) && !inS zBm s && !inS zBi s)):=by show _ = _;unfold zCy;rw [if_neg h1]
  have HL:=hid (zLk s w hs)
  have HK:=hid (zQc s w)
  have HA:=hid (zOb s w)
  unfold maxLen at hs
  have e1:((s.size:Int) == 1) = false:=by simp;omega
  have e1':decide ((s.size:Int) = 1) = false:=by simp;omega
  rw [HS.out]
  clear HS h1
  generalize inS zBm s = b1 at *
  generalize inS zBi s = b2 at *
  generalize (bytes s).all zA6 = b3 at *
  by_cases h2:2≤s.size
  ·have i2:(2:Int)≤(s.size:Int):=by omega
   have d2:decide ((2:Int)≤(s.size:Int)) = true:=by simp;omega
   rw [decide_eq_true h2]
   clear h2
   by_cases h3:s.size≤16
   ·have i3:(s.size:Int)≤16:=by omega
    have d3:decide ((s.size:Int)≤16) = true:=by simp;omega
    rw [decide_eq_true h3]
    clear h3
    cases b3 <;> cases b1 <;> cases b2
    all_goals
     go_enter Tryz.func118,Tryz.ntmps118
     go_wp2_with fail
     refine HL.out.mono ?_
     rintro e w' ⟨rfl,rfl⟩
     go_wp2_with fail
     try (refine HK.out.mono ?_;rintro e w' ⟨rfl,rfl⟩;go_wp2_with fail)
     try (refine HA.out.mono ?_;rintro e w' ⟨rfl,rfl⟩;go_wp2_with fail)
     go_ret
     exact ⟨rfl,rfl⟩
   ·have i3:¬ (s.size:Int)≤16:=by omega
    have d3:decide ((s.size:Int)≤16) = false:=by simp;omega
    rw [decide_eq_false h3]
    clear h3
    have HG:Hid ((b3 && true && false && !b1 && !b2) = false):=by show _ = _;simp
    rw [HG.out]
    go_enter Tryz.func118,Tryz.ntmps118
    go_wp2_with fail
    go_ret
    exact ⟨rfl,rfl⟩
  ·have i2:¬ (2:Int)≤(s.size:Int):=by omega
   have d2:decide ((2:Int)≤(s.size:Int)) = false:=by simp;omega
   rw [decide_eq_false h2]
   clear h2
   have HG:Hid ((b3 && false && decide (s.size≤16) && !b1 && !b2) = false):=by show _ = _;simp
   rw [HG.out]
   go_enter Tryz.func118,Tryz.ntmps118
   go_wp2_with fail
   go_ret
   exact ⟨rfl,rfl⟩
theorem zNa (s:ByteArray) (w:World) (hs:s.size≤maxLen) :
  Calls Tryz.prog 163 #[.string s] w fun e w'=>e = .returned (.bool (digs (bytes s)))∧w = w':=by
 rw [digs_eq];exact digits_q s w hs
set_option maxHeartbeats 2000000 in
theorem zP9 (s:ByteArray) (w:World) (hs:s.size≤maxLen) :
  Calls Tryz.prog 119 #[.string s] w fun e w'=>e = .returned (.bool (zDr s))∧∃ n,w' = w.drewN n:=by
 have HC:=hid (zIz s w hs)
 have HD:Hid (∀ (t:ByteArray) (W:World),t.size≤maxLen→Calls Tryz.prog 163 #[.string t] W fun e w'=>e = .returned (.bool (digs (bytes t)))∧W = w'):=fun t W ht=>zNa t W ht
 have hs0:=hs
 unfold maxLen at hs
 by_cases h3:s.size≤20
 ·have i3:(s.size:Int)≤20:=by omega
  have d3:decide ((s.size:Int)≤20) = true:=by simp;omega
  go_enter Tryz.func119,Tryz.ntmps119
  go_wp2_with fail
  refine HC.out.mono ?_
  rintro e w' ⟨⟨n,rfl⟩,(⟨hi,rfl⟩ | ⟨i,hi,hlt,rfl⟩)⟩
  ·have HN:=hid (zHx s hi)
   rw [decide_eq_true h3,Bool.true_and] at HN
   have HDD:=hid (HD.out s (w.drewN n) hs0)
   clear hi
   generalize digs (bytes s) = b at *
   cases b
   all_goals
    go_wp2_with fail
    refine HDD.out.mono ?_
    rintro e w' ⟨rfl,rfl⟩
    go_wp2_with fail
    go_ret
    exact ⟨by rw [HN.out];rfl,n,rfl⟩
  ·have HN:=hid (zHw s i hi hlt)
   rw [decide_eq_true h3,Bool.true_and] at HN
   have HD1:=hid (HD.out (s.extract 0 i) (w.drewN n) (by simp [maxLen];omega))
   have HD2:=hid (HD.out (s.extract (i + 1) s.size) (w.drewN n) (by simp [maxLen];omega))
   clear hi
   generalize digs (bytes (s.extract 0 i)) = b1 at *
   generalize digs (bytes (s.extract (i + 1) s.size)) = b2 at *
   generalize s.extract 0 i = t1 at *
   generalize s.extract (i + 1) s.size = t2 at *
   cases b1 <;> cases b2
   all_goals
    go_wp2_with fail
    refine HD1.out.mono ?_
    rintro e w' ⟨rfl,rfl⟩
    go_wp2_with fail
    try (refine HD2.out.mono ?_;rintro e w' ⟨rfl,rfl⟩;go_wp2_with fail)
    go_ret
    exact ⟨by rw [HN.out];rfl,n,rfl⟩
 ·have i3:¬ (s.size:Int)≤20:=by omega
  have d3:decide ((s.size:Int)≤20) = false:=by simp;omega
  have HG:Hid (zDr s = false):=by
   show _ = _
   rcases zE7 s 46 with hi | ⟨i,hi,hlt⟩
   ·rw [zHx s hi,decide_eq_false h3];rfl
   ·rw [zHw s i hi hlt,decide_eq_false h3];rfl
  go_enter Tryz.func119,Tryz.ntmps119
  go_wp2_with fail
  refine HC.out.mono ?_
  rintro e w' ⟨⟨n,rfl⟩,(⟨hi,rfl⟩ | ⟨i,hi,hlt,rfl⟩)⟩
  all_goals
   clear hi
   go_wp2_with fail
   go_ret
   exact ⟨by rw [HG.out];rfl,n,rfl⟩
def zLx (s:ByteArray):Bool:=decide (s.size = 2) && hasS (bytes zB7) ((bytes s).getD 0 0) && hasS (bytes zB7) ((bytes s).getD 1 0)
set_option maxHeartbeats 2000000 in
theorem fence_q (s:ByteArray) (w:World) (hs:s.size≤maxLen) :
  Calls Tryz.prog 122 #[.string s] w fun e w'=>e = .returned (.bool (zLx s))∧w = w':=by
 unfold maxLen at hs
 by_cases h2:s.size = 2
 ·have l0:0 < s.size:=by omega
  have l1:1 < s.size:=by omega
  have HG:Hid (zLx s = (hasS (bytes zB7) (s[0].toNat:Int) && hasS (bytes zB7) (s[1].toNat:Int))):=by show _ = _;rw [zLx,decide_eq_true h2,zFf s 0 l0,zFf s 1 l1];rfl
  have C0:=hid (zEc ⟨#[40,41,91,93,123,125,60,62,47,124,46]⟩ (s[0].toNat:Int) w)
  have C1:=hid (zEc ⟨#[40,41,91,93,123,125,60,62,47,124,46]⟩ (s[1].toNat:Int) w)
  have f0:=zIi s[0]
  have f1:=zIi s[1]
  rw [HG.out]
  clear HG
  simp only at C0 C1
  generalize Lib.indexByte [40,41,91,93,123,125,60,62,47,124,46] (((s[0].toNat:Int)).toNat.toUInt8) = x0 at *
  generalize Lib.indexByte [40,41,91,93,123,125,60,62,47,124,46] (((s[1].toNat:Int)).toNat.toUInt8) = x1 at *
  rw [← f0,← f1]
  clear f0 f1
  have d1:((s.size:Int) == 2) = true:=by simp;omega
  have i0:(0:Int) < (s.size:Int):=by omega
  have i1:(1:Int) < (s.size:Int):=by omega
  clear h2
  by_cases k0:0≤x0
  ·by_cases k1:0≤x1
   ·rw [decide_eq_true k0,decide_eq_true k1]
    go_enter Tryz.func122,Tryz.ntmps122
    go_wp2_with fail
    refine C0.out.mono ?_
    rintro e w' ⟨rfl,rfl⟩
    go_wp2_with fail
    refine C1.out.mono ?_
    rintro e w' ⟨rfl,rfl⟩
    go_wp2_with fail
    go_ret
    exact ⟨by first | rfl | (simp;done) | (simp;omega),rfl⟩
   ·have e1:decide (0≤x1) = false:=decide_eq_false k1
    rw [decide_eq_true k0,e1]
    go_enter Tryz.func122,Tryz.ntmps122
    go_wp2_with fail
    refine C0.out.mono ?_
    rintro e w' ⟨rfl,rfl⟩
    go_wp2_with fail
    refine C1.out.mono ?_
    rintro e w' ⟨rfl,rfl⟩
    go_wp2_with fail
    go_ret
    exact ⟨by first | rfl | (simp;done) | (simp;omega),rfl⟩
  ·have e0:decide (0≤x0) = false:=decide_eq_false k0
   rw [e0,Bool.false_and]
   go_enter Tryz.func122,Tryz.ntmps122
   go_wp2_with fail
   refine C0.out.mono ?_
   rintro e w' ⟨rfl,rfl⟩
   go_wp2_with fail
   go_ret
   exact ⟨by first | rfl | (simp;done) | (simp;omega),rfl⟩
 ·have HG:Hid (zLx s = false):=by show _ = _;rw [zLx,decide_eq_false h2];rfl
  have d1:((s.size:Int) == 2) = false:=by simp;omega
  rw [HG.out]
  clear h2 HG
  go_enter Tryz.func122,Tryz.ntmps122
  go_wp2_with fail
  go_ret
  exact ⟨rfl,rfl⟩
end Go.Proofs.YtbjcioknfjofkaaGreat
