/- Texts put together. -/
import Derived.Test.YthpngeboknmllaaQ9370e5c72a
import Derived.Deep.QuietTactic
import Derived.BigQuiet
set_option linter.unusedVariables false
set_option linter.unusedSimpArgs false
set_option maxRecDepth 100000
namespace Go.Proofs.Ythpngeboknmllaa
open Go.RowKit
theorem signs_has:∀ n:Fin 256,decide (0≤Lib.indexByte [43,45,42,47,61,60,62,44,59,58,33,124,39,63,126,64] (UInt8.ofNat n.val)) = hasS (bytes signsB) (n.val:Int):=by decide +kernel
theorem delims_has:∀ n:Fin 256,decide (0≤Lib.indexByte [40,41,91,93,123,125,60,62,47,124,46] (UInt8.ofNat n.val)) = hasS (bytes delimsB) (n.val:Int):=by decide +kernel
theorem signs_has' (c:UInt8):decide (0≤Lib.indexByte [43,45,42,47,61,60,62,44,59,58,33,124,39,63,126,64] c) = hasS (bytes signsB) (c.toNat:Int):=by
 have:=signs_has ⟨c.toNat,c.toNat_lt⟩
 simpa using this
theorem delims_has' (c:UInt8):decide (0≤Lib.indexByte [40,41,91,93,123,125,60,62,47,124,46] (((c.toNat:Int)).toNat.toUInt8)) = hasS (bytes delimsB) (c.toNat:Int):=by
 have:=delims_has ⟨c.toNat,c.toNat_lt⟩
 simpa using this
theorem one_byte (s:ByteArray) (h:s.size = 1):∃ c,s = ⟨#[c]⟩:=by
 obtain ⟨⟨l⟩⟩:=s
 match l,h with
 | [c],_=>exact ⟨c,rfl⟩
set_option maxHeartbeats 2000000 in
theorem nSymbol_q (s:ByteArray) (w:World) (hs:s.size≤maxLen) :
  Calls Try.prog 16 #[.string s] w fun e w'=>e = .returned (.bool (symbolS s))∧w = w':=by
 by_cases h1:s.size = 1
 ·obtain ⟨c,rfl⟩:=one_byte s h1
  have HL:=hid (letters_q ⟨#[c]⟩ w hs)
  have HC:=hid (contains_one signsB c w)
  have e1:(bytes ⟨#[c]⟩).all letterS = letterS (c.toNat:Int):=by simp [bytes]
  have e2:decide (0≤Lib.indexByte signsB.data.toList c) = hasS (bytes signsB) (c.toNat:Int):=signs_has' c
  have HF:Hid (symbolS ⟨#[c]⟩ = (letterS (c.toNat:Int) || hasS (bytes signsB) (c.toNat:Int))):=by
   show _ = _
   unfold symbolS;rw [if_pos h1]
   simp [characterS,bytes]
  rw [e1] at HL
  rw [e2] at HC
  rw [HF.out]
  clear e1 e2 HF h1
  generalize letterS (c.toNat:Int) = b1 at *
  generalize hasS (bytes signsB) (c.toNat:Int) = b2 at *
  unfold signsB at HC
  cases b1 <;> cases b2
  all_goals
   go_enter Try.func16,Try.ntmps16
   go_wp2_with fail
   refine HL.out.mono ?_
   rintro e w' ⟨rfl,rfl⟩
   go_wp2_with fail
   try (refine HC.out.mono ?_;rintro e w' ⟨rfl,rfl⟩;go_wp2_with fail)
   go_ret
   exact ⟨rfl,rfl⟩
 ·have HS:Hid (symbolS s = ((bytes s).all letterS && decide (2≤s.size) && decide (s.size≤16) && !inS keywordsL s && !inS accentsL s)):=by show _ = _;unfold symbolS;rw [if_neg h1]
  have HL:=hid (letters_q s w hs)
  have HK:=hid (keyword_q s w)
  have HA:=hid (accent_q s w)
  unfold maxLen at hs
  have e1:((s.size:Int) == 1) = false:=by simp;omega
  have e1':decide ((s.size:Int) = 1) = false:=by simp;omega
  rw [HS.out]
  clear HS h1
  generalize inS keywordsL s = b1 at *
  generalize inS accentsL s = b2 at *
  generalize (bytes s).all letterS = b3 at *
  by_cases h2:2≤s.size
  ·have i2:(2:Int)≤(s.size:Int):=by omega
   have d2:decide ((2:Int)≤(s.size:Int)) = true:=by simp;omega
   rw [decide_eq_true h2]
   clear h2
   by_cases h3:s.size≤16
   ·have i3:(s.size:Int)≤16:=by omega
    have d3:decide ((s.size:Int)≤16) = true:=by simp;omega
    rw [decide_eq_true h3]
    clear h3
    cases b3 <;> cases b1 <;> cases b2
    all_goals
     go_enter Try.func16,Try.ntmps16
     go_wp2_with fail
     refine HL.out.mono ?_
     rintro e w' ⟨rfl,rfl⟩
     go_wp2_with fail
     try (refine HK.out.mono ?_;rintro e w' ⟨rfl,rfl⟩;go_wp2_with fail)
     try (refine HA.out.mono ?_;rintro e w' ⟨rfl,rfl⟩;go_wp2_with fail)
     go_ret
     exact ⟨rfl,rfl⟩
   ·have i3:¬ (s.size:Int)≤16:=by omega
    have d3:decide ((s.size:Int)≤16) = false:=by simp;omega
    rw [decide_eq_false h3]
    clear h3
    have HG:Hid ((b3 && true && false && !b1 && !b2) = false):=by show _ = _;simp
    rw [HG.out]
    go_enter Try.func16,Try.ntmps16
    go_wp2_with fail
    go_ret
    exact ⟨rfl,rfl⟩
  ·have i2:¬ (2:Int)≤(s.size:Int):=by omega
   have d2:decide ((2:Int)≤(s.size:Int)) = false:=by simp;omega
   rw [decide_eq_false h2]
   clear h2
   have HG:Hid ((b3 && false && decide (s.size≤16) && !b1 && !b2) = false):=by show _ = _;simp
   rw [HG.out]
   go_enter Try.func16,Try.ntmps16
   go_wp2_with fail
   go_ret
   exact ⟨rfl,rfl⟩
theorem digits_digs (s:ByteArray) (w:World) (hs:s.size≤maxLen) :
  Calls Try.prog 62 #[.string s] w fun e w'=>e = .returned (.bool (digs (bytes s)))∧w = w':=by
 rw [digs_eq];exact digits_q s w hs
set_option maxHeartbeats 2000000 in
theorem nNumber_q (s:ByteArray) (w:World) (hs:s.size≤maxLen) :
  Calls Try.prog 51 #[.string s] w fun e w'=>e = .returned (.bool (numberS s))∧∃ n,w' = w.drewN n:=by
 have HC:=hid (stringsCut_dot s w hs)
 have HD:Hid (∀ (t:ByteArray) (W:World),t.size≤maxLen→Calls Try.prog 62 #[.string t] W fun e w'=>e = .returned (.bool (digs (bytes t)))∧W = w'):=fun t W ht=>digits_digs t W ht
 have hs0:=hs
 unfold maxLen at hs
 by_cases h3:s.size≤20
 ·have i3:(s.size:Int)≤20:=by omega
  have d3:decide ((s.size:Int)≤20) = true:=by simp;omega
  go_enter Try.func51,Try.ntmps51
  go_wp2_with fail
  refine HC.out.mono ?_
  rintro e w' ⟨⟨n,rfl⟩,(⟨hi,rfl⟩ | ⟨i,hi,hlt,rfl⟩)⟩
  ·have HN:=hid (number_none s hi)
   rw [decide_eq_true h3,Bool.true_and] at HN
   have HDD:=hid (HD.out s (w.drewN n) hs0)
   clear hi
   generalize digs (bytes s) = b at *
   cases b
   all_goals
    go_wp2_with fail
    refine HDD.out.mono ?_
    rintro e w' ⟨rfl,rfl⟩
    go_wp2_with fail
    go_ret
    exact ⟨by rw [HN.out];rfl,n,rfl⟩
  ·have HN:=hid (number_some s i hi hlt)
   rw [decide_eq_true h3,Bool.true_and] at HN
   have HD1:=hid (HD.out (s.extract 0 i) (w.drewN n) (by simp [maxLen];omega))
   have HD2:=hid (HD.out (s.extract (i + 1) s.size) (w.drewN n) (by simp [maxLen];omega))
   clear hi
   generalize digs (bytes (s.extract 0 i)) = b1 at *
   generalize digs (bytes (s.extract (i + 1) s.size)) = b2 at *
   generalize s.extract 0 i = t1 at *
   generalize s.extract (i + 1) s.size = t2 at *
   cases b1 <;> cases b2
   all_goals
    go_wp2_with fail
    refine HD1.out.mono ?_
    rintro e w' ⟨rfl,rfl⟩
    go_wp2_with fail
    try (refine HD2.out.mono ?_;rintro e w' ⟨rfl,rfl⟩;go_wp2_with fail)
    go_ret
    exact ⟨by rw [HN.out];rfl,n,rfl⟩
 ·have i3:¬ (s.size:Int)≤20:=by omega
  have d3:decide ((s.size:Int)≤20) = false:=by simp;omega
  have HG:Hid (numberS s = false):=by
   show _ = _
   rcases indexByte_cases s 46 with hi | ⟨i,hi,hlt⟩
   ·rw [number_none s hi,decide_eq_false h3];rfl
   ·rw [number_some s i hi hlt,decide_eq_false h3];rfl
  go_enter Try.func51,Try.ntmps51
  go_wp2_with fail
  refine HC.out.mono ?_
  rintro e w' ⟨⟨n,rfl⟩,(⟨hi,rfl⟩ | ⟨i,hi,hlt,rfl⟩)⟩
  all_goals
   clear hi
   go_wp2_with fail
   go_ret
   exact ⟨by rw [HG.out];rfl,n,rfl⟩
def fenceS (s:ByteArray):Bool:=decide (s.size = 2) && hasS (bytes delimsB) ((bytes s).getD 0 0) && hasS (bytes delimsB) ((bytes s).getD 1 0)
set_option maxHeartbeats 2000000 in
theorem fence_q (s:ByteArray) (w:World) (hs:s.size≤maxLen) :
  Calls Try.prog 53 #[.string s] w fun e w'=>e = .returned (.bool (fenceS s))∧w = w':=by
 unfold maxLen at hs
 by_cases h2:s.size = 2
 ·have l0:0 < s.size:=by omega
  have l1:1 < s.size:=by omega
  have HG:Hid (fenceS s = (hasS (bytes delimsB) (s[0].toNat:Int) && hasS (bytes delimsB) (s[1].toNat:Int))):=by show _ = _;rw [fenceS,decide_eq_true h2,bytes_getD s 0 l0,bytes_getD s 1 l1];rfl
  have C0:=hid (stringsIndexByte_q ⟨#[40,41,91,93,123,125,60,62,47,124,46]⟩ (s[0].toNat:Int) w)
  have C1:=hid (stringsIndexByte_q ⟨#[40,41,91,93,123,125,60,62,47,124,46]⟩ (s[1].toNat:Int) w)
  have f0:=delims_has' s[0]
  have f1:=delims_has' s[1]
  rw [HG.out]
  clear HG
  simp only at C0 C1
  generalize Lib.indexByte [40,41,91,93,123,125,60,62,47,124,46] (((s[0].toNat:Int)).toNat.toUInt8) = x0 at *
  generalize Lib.indexByte [40,41,91,93,123,125,60,62,47,124,46] (((s[1].toNat:Int)).toNat.toUInt8) = x1 at *
  rw [← f0,← f1]
  clear f0 f1
  have d1:((s.size:Int) == 2) = true:=by simp;omega
  have i0:(0:Int) < (s.size:Int):=by omega
  have i1:(1:Int) < (s.size:Int):=by omega
  clear h2
  by_cases k0:0≤x0
  ·by_cases k1:0≤x1
   ·rw [decide_eq_true k0,decide_eq_true k1]
    go_enter Try.func53,Try.ntmps53
    go_wp2_with fail
    refine C0.out.mono ?_
    rintro e w' ⟨rfl,rfl⟩
    go_wp2_with fail
    refine C1.out.mono ?_
    rintro e w' ⟨rfl,rfl⟩
    go_wp2_with fail
    go_ret
    exact ⟨by first | rfl | (simp;done) | (simp;omega),rfl⟩
   ·have e1:decide (0≤x1) = false:=decide_eq_false k1
    rw [decide_eq_true k0,e1]
    go_enter Try.func53,Try.ntmps53
    go_wp2_with fail
    refine C0.out.mono ?_
    rintro e w' ⟨rfl,rfl⟩
    go_wp2_with fail
    refine C1.out.mono ?_
    rintro e w' ⟨rfl,rfl⟩
    go_wp2_with fail
    go_ret
    exact ⟨by first | rfl | (simp;done) | (simp;omega),rfl⟩
  ·have e0:decide (0≤x0) = false:=decide_eq_false k0
   rw [e0,Bool.false_and]
   go_enter Try.func53,Try.ntmps53
   go_wp2_with fail
   refine C0.out.mono ?_
   rintro e w' ⟨rfl,rfl⟩
   go_wp2_with fail
   go_ret
   exact ⟨by first | rfl | (simp;done) | (simp;omega),rfl⟩
 ·have HG:Hid (fenceS s = false):=by show _ = _;rw [fenceS,decide_eq_false h2];rfl
  have d1:((s.size:Int) == 2) = false:=by simp;omega
  rw [HG.out]
  clear h2 HG
  go_enter Try.func53,Try.ntmps53
  go_wp2_with fail
  go_ret
  exact ⟨rfl,rfl⟩
end Go.Proofs.Ythpngeboknmllaa
