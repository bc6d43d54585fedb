/- Texts put together. -/
import Derived.Test.YtbjcioknfjofkaaGreatQ2a6bd4da00
import Derived.Deep.QuietTactic
import Derived.BigQuiet
import Derived.Deep.RegionHeld3
set_option linter.unusedVariables false
set_option linter.unusedSimpArgs false
namespace Go.Proofs.YtbjcioknfjofkaaGreat
open Go.RowKit
def bytes (s:ByteArray):List Int:=s.data.toList.map fun b=>(b.toNat:Int)
theorem zEr (s:ByteArray):(bytes s).length = s.size:=by simp only [bytes,List.length_map,Array.length_toList];rfl
theorem zMd (s:ByteArray) (k:Nat) (h:k < s.size):(bytes s)[k]'(by rw [zEr];exact h) = (s[k].toNat:Int):=by simp only [bytes,List.getElem_map];rfl
theorem zCw (s:ByteArray) (k:Nat) (h:k < s.size):(bytes s).drop k = (s[k].toNat:Int) :: (bytes s).drop (k + 1):=by
 rw [List.drop_eq_getElem_cons (by rw [zEr];exact h),zMd s k h]
theorem zB9 (s:ByteArray) (k:Nat) (h:¬ k < s.size):(bytes s).drop k = []:=List.drop_of_length_le (by rw [zEr];omega)
def zA1 (l:List Int):Bool:=l.all fun c=>decide (32≤c∧c≤126)
def zA6 (c:Int):Bool:=decide (97≤c∧c≤122) || decide (65≤c∧c≤90)
def zBx (c:Int):Bool:=decide (48≤c∧c≤57)
theorem digit_q (c:Int) (w:World) (h0:0≤c) (h1:c≤255):Calls Tryz.prog 176 #[.int .u8 c] w fun e w'=>e = .returned (.bool (zBx c))∧w = w':=by
 by_cases a:48≤c
 ·by_cases b:c≤57
  ·have HF:Hid (zBx c = true):=by show _ = _;simp [zBx,a,b]
   go_enter Tryz.func176,Tryz.ntmps176
   go_wp2_with fail
   go_ret
   exact ⟨by rw [HF.out];rfl,rfl⟩
  ·have HF:Hid (zBx c = false):=by show _ = _;simp [zBx,b]
   go_enter Tryz.func176,Tryz.ntmps176
   go_wp2_with fail
   go_ret
   exact ⟨by rw [HF.out];first | done | rfl | (simp;omega),rfl⟩
 ·have HF:Hid (zBx c = false):=by show _ = _;simp [zBx,a]
  go_enter Tryz.func176,Tryz.ntmps176
  go_wp2_with fail
  go_ret
  exact ⟨by rw [HF.out];first | done | rfl | (simp;omega),rfl⟩
theorem zN1 (c:Int) (w:World) (h0:0≤c) (h1:c≤255):Calls Tryz.prog 174 #[.int .u8 c] w fun e w'=>e = .returned (.bool (zA6 c))∧w = w':=by
 have hc:(97≤c∧c≤122)∨(65≤c∧c≤90)∨c < 65∨(90 < c∧c < 97)∨122 < c:=by omega
 rcases hc with ⟨a,b⟩ | ⟨a,b⟩ | a | ⟨a,b⟩ | a
 ·have HF:Hid (zA6 c = true):=by show _ = _;simp [zA6,a,b]
  go_enter Tryz.func174,Tryz.ntmps174
  go_wp2_with fail
  go_ret
  exact ⟨by rw [HF.out];rfl,rfl⟩
 ·have HF:Hid (zA6 c = true):=by show _ = _;simp [zA6,a,b]
  have n1:decide (97≤c) = false:=by simp;omega
  go_enter Tryz.func174,Tryz.ntmps174
  go_wp2_with fail
  go_ret
  exact ⟨by rw [HF.out];rfl,rfl⟩
 ·have HF:Hid (zA6 c = false):=by show _ = _;simp [zA6];omega
  have n1:decide (97≤c) = false:=by simp;omega
  have n2:decide (65≤c) = false:=by simp;omega
  go_enter Tryz.func174,Tryz.ntmps174
  go_wp2_with fail
  go_ret
  exact ⟨by rw [HF.out];rfl,rfl⟩
 ·have HF:Hid (zA6 c = false):=by show _ = _;simp [zA6];omega
  have n1:decide (97≤c) = false:=by simp;omega
  have n2:decide (65≤c) = true:=by simp;omega
  have n3:decide (c≤90) = false:=by simp;omega
  go_enter Tryz.func174,Tryz.ntmps174
  go_wp2_with fail
  go_ret
  exact ⟨by rw [HF.out];rfl,rfl⟩
 ·have HF:Hid (zA6 c = false):=by show _ = _;simp [zA6];omega
  have n1:decide (97≤c) = true:=by simp;omega
  have n2:decide (c≤122) = false:=by simp;omega
  have n3:decide (65≤c) = true:=by simp;omega
  have n4:decide (c≤90) = false:=by simp;omega
  go_enter Tryz.func174,Tryz.ntmps174
  go_wp2_with fail
  go_ret
  exact ⟨by rw [HF.out];rfl,rfl⟩
def hasS (l:List Int) (c:Int):Bool:=l.any (· == c)
set_option maxHeartbeats 400000 in
theorem has_q (s:ByteArray) (c:Int) (w:World) (hs:s.size≤maxLen) :
  Calls Tryz.prog 152 #[.string s,.int .u8 c] w fun e w'=>e = .returned (.bool (hasS (bytes s) c))∧w = w':=by
 unfold maxLen at hs
 go_enter Tryz.func152,Tryz.ntmps152
 go_wp2
 go_loop [5] (fun i=>∃ k:Nat,k≤s.size∧i = .int .i64 k∧hasS ((bytes s).drop k) c = hasS (bytes s) c) (fun i=>s.size - (intOf i).toNat)
 case atStart=>exact ⟨0,Nat.zero_le _,rfl,rfl⟩
 case round =>
  obtain ⟨k,hk,rfl,hrest⟩:=hrel
  have HR:=hid hrest
  clear hrest
  by_cases hlt:k < s.size
  ·have HN:=hid (zCw s k hlt)
   by_cases he:(s[k].toNat:Int) = c
   ·have hb:((s[k].toNat:Int) == c) = true:=by simpa using he
    have HF:Hid (hasS (bytes s) c = true):=by show _ = _;rw [← HR.out,HN.out,hasS,List.any_cons,hb];rfl
    clear he
    go_wp2
    go_ret
    exact ⟨by rw [HF.out];rfl,rfl⟩
   ·have hb:((s[k].toNat:Int) == c) = false:=by simpa using he
    have HF:Hid (hasS ((bytes s).drop (k + 1)) c = hasS (bytes s) c):=by show _ = _;rw [← HR.out,HN.out,hasS,hasS,List.any_cons,hb];rfl
    clear he
    go_wp2
    go_round
    case rel=>exact ⟨k + 1,by omega,by go_num,HF.out⟩
    case measure=>simp [intOf];omega
  ·have HF:Hid (hasS (bytes s) c = false):=by show _ = _;rw [← HR.out,zB9 s k hlt];rfl
   go_wp2
   go_ret
   exact ⟨by rw [HF.out];rfl,rfl⟩
def zDz:ByteArray:=⟨#[43,45,42,47,61,60,62,44,59,58,33,124,39,63,126,64]⟩
def zEq (c:Int):Bool:=zA6 c || hasS (bytes zDz) c
theorem zNf (c:Int) (w:World) (h0:0≤c) (h1:c≤255):Calls Tryz.prog 173 #[.int .u8 c] w fun e w'=>e = .returned (.bool (zEq c))∧w = w':=by
 have HL:=hid (zN1 c w h0 h1)
 have HH:Hid (∀ W,Calls Tryz.prog 152 #[.string zDz,.int .u8 c] W fun e w'=>e = .returned (.bool (hasS (bytes zDz) c))∧W = w'):=fun W=>has_q zDz c W (by decide)
 have HF:Hid (zEq c = (zA6 c || hasS (bytes zDz) c)):=rfl
 generalize zA6 c = a at *
 generalize hasS (bytes zDz) c = b at *
 unfold zDz at HH
 cases a <;> cases b
 all_goals
  go_enter Tryz.func173,Tryz.ntmps173
  go_wp2_with fail
  with_reducible refine HL.out.mono ?_
  rintro e w1 ⟨rfl,rfl⟩
  go_wp2_with fail
  try (refine (HH.out _).mono ?_;rintro e w1 ⟨rfl,rfl⟩;go_wp2_with fail)
  go_ret
  exact ⟨by rw [HF.out];rfl,rfl⟩
set_option maxHeartbeats 400000 in
theorem zMp (s:ByteArray) (w:World) (hs:s.size≤maxLen) :
  Calls Tryz.prog 149 #[.string s] w fun e w'=>e = .returned (.bool (zA1 (bytes s)))∧w = w':=by
 unfold maxLen at hs
 go_enter Tryz.func149,Tryz.ntmps149
 go_wp2
 go_loop [3] (fun i=>∃ k:Nat,k≤s.size∧i = .int .i64 k∧zA1 ((bytes s).drop k) = zA1 (bytes s)) (fun i=>s.size - (intOf i).toNat)
 case atStart=>exact ⟨0,Nat.zero_le _,rfl,rfl⟩
 case round =>
  obtain ⟨k,hk,rfl,hrest⟩:=hrel
  have HR:=hid hrest
  clear hrest
  by_cases hlt:k < s.size
  ·have HN:=hid (zCw s k hlt)
   by_cases h1:(s[k].toNat:Int) < 32
   ·have HF:Hid (zA1 (bytes s) = false):=by show _ = _;rw [← HR.out,HN.out,zA1,List.all_cons,decide_eq_false (by omega)];rfl
    go_wp2
    go_ret
    exact ⟨by rw [HF.out];rfl,rfl⟩
   ·have d1:decide ((s[k].toNat:Int) < 32) = false:=by simpa using h1
    by_cases h2:126 < (s[k].toNat:Int)
    ·have HF:Hid (zA1 (bytes s) = false):=by show _ = _;rw [← HR.out,HN.out,zA1,List.all_cons,decide_eq_false (by omega)];rfl
     go_wp2
     go_ret
     exact ⟨by rw [HF.out];rfl,rfl⟩
    ·have d2:decide (126 < (s[k].toNat:Int)) = false:=by simpa using h2
     have HF:Hid (zA1 ((bytes s).drop (k + 1)) = zA1 (bytes s)):=by show _ = _;rw [← HR.out,HN.out,zA1,zA1,List.all_cons,decide_eq_true (show 32≤(s[k].toNat:Int)∧(s[k].toNat:Int)≤126 by omega)];rfl
     go_wp2
     go_round
     case rel=>exact ⟨k + 1,by omega,by go_num,HF.out⟩
     case measure=>simp [intOf];omega
  ·have HF:Hid (zA1 (bytes s) = true):=by show _ = _;rw [← HR.out,zB9 s k hlt];rfl
   go_wp2
   go_ret
   exact ⟨by rw [HF.out];rfl,rfl⟩
def strE:Enc ByteArray where
 size:=1
 R _ _ s cs:=cs = [.string s]∧s.size≤maxLen
 pos:=by omega
 len:=by rintro _ _ _ _ ⟨rfl,_⟩;rfl
 one:=by rintro _ _ _ _ ⟨rfl,_⟩;simp [Value.oneCell']
 keep:=fun h _ _=>h
theorem strs_at {w:World} {S:Nat→Prop} {xs:List ByteArray} {A:Option Addr} {cs:List Value} (h3:zBk w S A cs) (h4:zAw strE w S xs cs) {k:Nat} (hk:k < xs.length) :
  ∃ g o,A = some ⟨g,o,none⟩∧S g∧w.cell? ⟨g,o + k,none⟩ = some (.string xs[k]):=by
 obtain ⟨g,o,c,e,hb,⟨rfl,hi⟩,hc⟩:=zFa h3 h4 hk
 exact ⟨g,o,e,hb,by simpa [strE] using hc 0 _ rfl⟩
def inS (l:List ByteArray) (s:ByteArray):Bool:=l.any fun x=>x.toList == s.toList
theorem inS_drop {l:List ByteArray} {k:Nat} (h:k < l.length) (s:ByteArray):inS (l.drop k) s = ((l[k].toList == s.toList) || inS (l.drop (k + 1)) s):=by
 rw [List.drop_eq_getElem_cons h];rfl
set_option maxHeartbeats 400000 in
theorem in_q (l : List ByteArray) (s : ByteArray) (w : World) (v : Value) (S : Nat → Prop) (hv : zAa strE w S l v) :
    Calls Tryz.prog 150 #[v, .string s] w fun e w' => e = .returned (.bool (inS l s)) ∧ w = w' := by
  obtain ⟨A, cap, rs, rfl, hcap, hmax, hrd, hls⟩ := hv
  unfold maxLen at hmax
  have hl : l.length ≤ 9223372036854775807 := by omega
  have H : Hid (zBk w S A rs ∧ zAw strE w S l rs) := ⟨hrd, hls⟩
  clear hrd hls
  go_enter Tryz.func150, Tryz.ntmps150
  go_wp2
  go_loop [5] (fun i => ∃ k : Nat, k ≤ l.length ∧ i = .int .i64 k ∧ inS (l.drop k) s = inS l s) (fun i => l.length - (intOf i).toNat)
  case atStart => exact ⟨0, Nat.zero_le _, rfl, rfl⟩
  case round =>
    obtain ⟨k, hk, rfl, hrest⟩ := hrel
    have HR := hid hrest
    clear hrest
    by_cases hlt : k < l.length
    · obtain ⟨g, o, rfl, hg, c0⟩ := strs_at H.out.1 H.out.2 hlt
      have HN := hid (inS_drop hlt s)
      cases hq : (l[k].toList == s.toList) with
      | true =>
        have HF : Hid (inS l s = true) := by show _ = _; rw [← HR.out, HN.out, hq]; rfl
        go_wp2
        go_ret
        exact ⟨by rw [HF.out]; rfl, rfl⟩
      | false =>
        have HF : Hid (inS (l.drop (k + 1)) s = inS l s) := by show _ = _; rw [← HR.out, HN.out, hq]; rfl
        go_wp2
        go_round
        case rel => exact ⟨k + 1, by omega, by go_num, HF.out⟩
        case measure => simp [intOf]; omega
    · have HF : Hid (inS l s = false) := by show _ = _; rw [← HR.out, List.drop_of_length_le (by omega)]; rfl
      go_wp2
      go_ret
      exact ⟨by rw [HF.out]; rfl, rfl⟩
def zBm:List ByteArray:=[⟨#[102,114,97,99]⟩,⟨#[114,111,111,116]⟩,⟨#[109,97,116,114,105,120]⟩,⟨#[102,101,110,99,101]⟩]
def zBi:List ByteArray:=[⟨#[104,97,116]⟩,⟨#[98,97,114]⟩,⟨#[118,101,99]⟩,⟨#[100,111,116]⟩,⟨#[116,105,108,100,101]⟩,⟨#[99,104,101,99,107]⟩]
def zGh (w:World) (l:List ByteArray) (e:Ending) (w':World):Prop:=∃ A c,e = .returned (.slice A l.length c)∧zAa strE w' (Lt w'.heap.size) l (.slice A l.length c)∧Below w.heap.size w w'
theorem zNp (w:World) (l:List ByteArray) (hl:∀ s ∈ l,s.size≤maxLen) (hn:l.length≤maxLen) (e:TypeId) (arr:Array Value) (harr:arr = (l.map Value.string).toArray) :
  zAa strE (w.alloc (.cells arr e)) (Lt (w.alloc (.cells arr e)).heap.size) l (.slice (some ⟨w.heap.size,0,none⟩) l.length l.length):=by
 subst harr
 refine ⟨_,_,l.map Value.string,rfl,Nat.le_refl _,hn,fun _=>⟨w.heap.size,0,rfl,by unfold Lt;simp,fun j u hu=>?_⟩,?_⟩
 ·rw [Nat.zero_add,World.cell?_alloc_new];simpa using hu
 ·clear hn
  induction l with
  | nil=>rfl
  | cons s l ih=>exact ⟨[.string s],_,rfl,⟨rfl,hl s (by simp)⟩,by
    have:=ih (fun s hs=>hl s (by simp [hs]))
    have key:∀ (W W':World) (S S':Nat→Prop) (xs:List ByteArray) (cs:List Value),zAw strE W S xs cs→zAw strE W' S' xs cs:=by
     intro W W' S S' xs
     induction xs with
     | nil=>intro cs h;exact h
     | cons x xs ih2=>rintro cs ⟨h,r,e1,e2,e3⟩;exact ⟨h,r,e1,e2,ih2 r e3⟩
    exact key _ _ _ _ _ _ this⟩
set_option maxHeartbeats 400000 in
theorem zLp (w:World):Calls Tryz.prog 175 #[] w (zGh w zBm):=by
 have HL:=hid (zNp w zBm (by unfold zBm;intro s hs;simp only [List.mem_cons,List.not_mem_nil,or_false] at hs;rcases hs with rfl | rfl | rfl | rfl <;> decide) (by decide) 9 _ rfl)
 go_enter Tryz.func175,Tryz.ntmps175
 go_wp2
 go_ret
 exact ⟨_,_,rfl,HL.out,(Below.refl _ _).alloc (Nat.le_refl _) _⟩
set_option maxHeartbeats 400000 in
theorem zIs (w:World):Calls Tryz.prog 151 #[] w (zGh w zBi):=by
 have HL:=hid (zNp w zBi (by unfold zBi;intro s hs;simp only [List.mem_cons,List.not_mem_nil,or_false] at hs;rcases hs with rfl | rfl | rfl | rfl | rfl | rfl <;> decide) (by decide) 9 _ rfl)
 go_enter Tryz.func151,Tryz.ntmps151
 go_wp2
 go_ret
 exact ⟨_,_,rfl,HL.out,(Below.refl _ _).alloc (Nat.le_refl _) _⟩
def zDp (n:Nat):List Int→Nat→Nat→Option Nat
 | [],_,p=>some p
 | c :: l,k,p=>if c = 46∧0 < k∧k + 1 < n then zDp n l (k + 1) (p + 1) else if zBx c = true then zDp n l (k + 1) p else none
def zDr (s:ByteArray):Bool :=
 match zDp s.size (bytes s) 0 0 with
 | some p=>decide (0 < s.size∧s.size≤20∧p≤1)
 | none=>false
set_option maxHeartbeats 1000000 in
theorem number_q (s : ByteArray) (w : World) (hs : s.size ≤ maxLen) :
    Calls Tryz.prog 148 #[.string s] w fun e w' => e = .returned (.bool (zDr s)) ∧ w = w' := by
  unfold maxLen at hs
  have HD : Hid (∀ c : Int, 0 ≤ c → c ≤ 255 → Calls Tryz.prog 176 #[.int .u8 c] w fun e w' => e = .returned (.bool (zBx c)) ∧ w = w') := fun c h0 h1 => digit_q c w h0 h1
  have HS : Hid (zDr s = match zDp s.size (bytes s) 0 0 with
    | some p => decide (0 < s.size ∧ s.size ≤ 20 ∧ p ≤ 1)
    | none => false) := rfl
  go_enter Tryz.func148, Tryz.ntmps148
  go_wp2
  go_loop [3, 4] (fun q i => ∃ k p : Nat, k ≤ s.size ∧ p ≤ k ∧ i = .int .i64 k ∧ q = .int .i64 p ∧ zDp s.size ((bytes s).drop k) k p = zDp s.size (bytes s) 0 0) (fun _ i => s.size - (intOf i).toNat)
  case atStart => exact ⟨0, 0, Nat.zero_le _, Nat.zero_le _, rfl, rfl, rfl⟩
  case round =>
    obtain ⟨k, p, hk, hp, rfl, rfl, hrest⟩ := hrel
    have HR := hid hrest
    clear hrest
    by_cases hlt : k < s.size
    · have HN := hid (zCw s k hlt)
      have hb0 : (0 : Int) ≤ (s[k].toNat : Int) := by omega
      have hb1 : (s[k].toNat : Int) ≤ 255 := by have := s[k].toNat_lt; omega
      by_cases hc : (s[k].toNat : Int) = 46 ∧ 0 < k ∧ k + 1 < s.size
      · have HF : Hid (zDp s.size ((bytes s).drop (k + 1)) (k + 1) (p + 1) = zDp s.size (bytes s) 0 0) := by show _ = _; rw [← HR.out, HN.out, zDp, if_pos hc]
        have e1 : ((s[k].toNat : Int) == 46) = true := by simpa using hc.1
        obtain ⟨_, hc2, hc3⟩ := hc
        have e2 : (0 : Int) < (k : Int) := by omega
        have e3 : (k : Int) < (s.size : Int) - 1 := by omega
        go_wp2_with fail
        go_round
        case rel => exact ⟨k + 1, p + 1, by omega, by omega, by go_num, by go_num, HF.out⟩
        case measure => simp [intOf]; omega
      · cases hd : zBx (s[k].toNat : Int) with
        | true =>
          have HF : Hid (zDp s.size ((bytes s).drop (k + 1)) (k + 1) p = zDp s.size (bytes s) 0 0) := by show _ = _; rw [← HR.out, HN.out, zDp, if_neg hc, if_pos hd]
          have hne : (s[k].toNat : Int) ≠ 46 := by intro h; rw [h] at hd; exact absurd hd (by decide)
          have e1 : ((s[k].toNat : Int) == 46) = false := by simpa using hne
          have HDD := hid (HD.out _ hb0 hb1)
          rw [hd] at HDD
          clear hc hne hd
          go_wp2_with fail
          with_reducible refine HDD.out.mono ?_
          rintro e w1 ⟨rfl, rfl⟩
          go_wp2_with fail
          go_round
          case rel => exact ⟨k + 1, p, by omega, by omega, by go_num, rfl, HF.out⟩
          case measure => simp [intOf]; omega
        | false =>
          have HF : Hid (zDr s = false) := by show _ = _; rw [HS.out, ← HR.out, HN.out, zDp, if_neg hc, if_neg (by rw [hd]; simp)]
          have HDD := hid (HD.out _ hb0 hb1)
          rw [hd] at HDD
          clear hd
          by_cases he : (s[k].toNat : Int) = 46
          · have e1 : ((s[k].toNat : Int) == 46) = true := by simpa using he
            by_cases hk0 : 0 < k
            · have e2 : (0 : Int) < (k : Int) := by omega
              have e3 : (s.size : Int) - 1 ≤ (k : Int) := by omega
              clear hc he
              go_wp2_with fail
              with_reducible refine HDD.out.mono ?_
              rintro e w1 ⟨rfl, rfl⟩
              go_wp2_with fail
              go_ret
              exact ⟨by rw [HF.out]; rfl, rfl⟩
            · obtain rfl : k = 0 := by omega
              clear hc he
              go_wp2_with fail
              with_reducible refine HDD.out.mono ?_
              rintro e w1 ⟨rfl, rfl⟩
              go_wp2_with fail
              go_ret
              exact ⟨by rw [HF.out]; rfl, rfl⟩
          · have e1 : ((s[k].toNat : Int) == 46) = false := by simpa using he
            clear hc he
            go_wp2_with fail
            with_reducible refine HDD.out.mono ?_
            rintro e w1 ⟨rfl, rfl⟩
            go_wp2_with fail
            go_ret
            exact ⟨by rw [HF.out]; rfl, rfl⟩
    · have hke : k = s.size := by omega
      have HF : Hid (zDr s = decide (0 < s.size ∧ s.size ≤ 20 ∧ p ≤ 1)) := by show _ = _; rw [HS.out, ← HR.out, zB9 s k hlt, zDp]
      by_cases h1 : 0 < s.size
      · by_cases h2 : s.size ≤ 20
        · by_cases h3 : p ≤ 1
          · clear hke
            go_wp2_with fail
            go_ret
            exact ⟨by rw [HF.out, show decide (0 < s.size ∧ s.size ≤ 20 ∧ p ≤ 1) = true from decide_eq_true ⟨h1, h2, h3⟩]; first | done | rfl | (simp; done) | (simp; omega), rfl⟩
          · have h3' : decide ((p : Int) ≤ 1) = false := by simp; omega
            clear hke
            go_wp2_with fail
            go_ret
            exact ⟨by rw [HF.out, show decide (0 < s.size ∧ s.size ≤ 20 ∧ p ≤ 1) = false from decide_eq_false (fun h => h3 h.2.2)]; first | done | rfl | (simp; done) | (simp; omega), rfl⟩
        · have h2' : decide ((s.size : Int) ≤ 20) = false := by simp; omega
          clear hke
          go_wp2_with fail
          go_ret
          exact ⟨by rw [HF.out, show decide (0 < s.size ∧ s.size ≤ 20 ∧ p ≤ 1) = false from decide_eq_false (fun h => h2 h.2.1)]; first | done | rfl | (simp; done) | (simp; omega), rfl⟩
      · have h1' : decide ((0 : Int) < (s.size : Int)) = false := decide_eq_false (by omega)
        clear hke
        go_wp2_with fail
        go_ret
        exact ⟨by rw [HF.out, show decide (0 < s.size ∧ s.size ≤ 20 ∧ p ≤ 1) = false from decide_eq_false (fun h => h1 h.1)]; first | done | rfl | (simp; done) | (simp; omega), rfl⟩
def zCy (s:ByteArray):Bool :=
 if s.size = 1 then zEq ((bytes s).headD 0)
 else ((bytes s).all zA6 && decide (2≤s.size) && decide (s.size≤16) && !inS zBm s && !inS zBi s)
theorem allL_drop (s:ByteArray) (k:Nat) (h:k < s.size):((bytes s).drop k).all zA6 = (zA6 (s[k].toNat:Int) && ((bytes s).drop (k + 1)).all zA6):=by
 rw [zCw s k h];rfl
set_option maxHeartbeats 1000000 in
theorem zOg (s : ByteArray) (w : World) (hs : s.size ≤ maxLen) :
    Calls Tryz.prog 147 #[.string s] w fun e w' => e = .returned (.bool (zCy s)) ∧ Below w.heap.size w w' := by
  unfold maxLen at hs
  have HL : Hid (∀ c : Int, 0 ≤ c → c ≤ 255 → Calls Tryz.prog 174 #[.int .u8 c] w fun e w' => e = .returned (.bool (zA6 c)) ∧ w = w') := fun c h0 h1 => zN1 c w h0 h1
  by_cases h1 : s.size = 1
  · have h0 : 0 < s.size := by omega
    have hb1 : (s[0].toNat : Int) ≤ 255 := by have := s[0].toNat_lt; omega
    have HC := hid (zNf (s[0].toNat : Int) w (by omega) hb1)
    have HF : Hid (zCy s = zEq (s[0].toNat : Int)) := by
      show _ = _; unfold zCy; rw [if_pos h1]
      have := zCw s 0 h0
      rw [List.drop_zero] at this
      rw [this]; rfl
    have e1 : ((s.size : Int) == 1) = true := by simp; omega
    have i1 : (0 : Int) < (s.size : Int) := by omega
    clear h1
    go_enter Tryz.func147, Tryz.ntmps147
    go_wp2_with fail
    with_reducible refine HC.out.mono ?_
    rintro e w1 ⟨rfl, rfl⟩
    go_wp2_with fail
    go_ret
    exact ⟨by rw [HF.out]; rfl, Below.refl _ _⟩
  · have e1 : ((s.size : Int) == 1) = false := by simp; omega
    have HS : Hid (zCy s = ((bytes s).all zA6 && decide (2 ≤ s.size) && decide (s.size ≤ 16) && !inS zBm s && !inS zBi s)) := by show _ = _; unfold zCy; rw [if_neg h1]
    have HK : Hid (∀ W, Calls Tryz.prog 175 #[] W (zGh W zBm)) := fun W => zLp W
    have HA : Hid (∀ W, Calls Tryz.prog 151 #[] W (zGh W zBi)) := fun W => zIs W
    have HI : Hid (∀ (W : World) (l : List ByteArray) (v : Value), zAa strE W (Lt W.heap.size) l v → Calls Tryz.prog 150 #[v, .string s] W fun e w' => e = .returned (.bool (inS l s)) ∧ W = w') := fun W l v hv => in_q l s W v _ hv
    clear h1
    go_enter Tryz.func147, Tryz.ntmps147
    go_wp2_with fail
    go_loop [3] (fun i => ∃ k : Nat, k ≤ s.size ∧ i = .int .i64 k ∧ ((bytes s).drop k).all zA6 = (bytes s).all zA6) (fun i => s.size - (intOf i).toNat)
    case atStart => exact ⟨0, Nat.zero_le _, rfl, rfl⟩
    case round =>
      obtain ⟨k, hk, rfl, hrest⟩ := hrel
      have HR := hid hrest
      clear hrest
      by_cases hlt : k < s.size
      · have HN := hid (allL_drop s k hlt)
        have hb0 : (0 : Int) ≤ (s[k].toNat : Int) := by omega
        have hb1 : (s[k].toNat : Int) ≤ 255 := by have := s[k].toNat_lt; omega
        have HLL := hid (HL.out _ hb0 hb1)
        cases hd : zA6 (s[k].toNat : Int) with
        | true =>
          rw [hd] at HLL
          have HF : Hid (((bytes s).drop (k + 1)).all zA6 = (bytes s).all zA6) := by show _ = _; rw [← HR.out, HN.out, hd]; rfl
          clear hd
          go_wp2_with fail
          with_reducible refine HLL.out.mono ?_
          rintro e w1 ⟨rfl, rfl⟩
          go_wp2_with fail
          go_round
          case rel => exact ⟨k + 1, by omega, by go_num, HF.out⟩
          case measure => simp [intOf]; omega
        | false =>
          rw [hd] at HLL
          have HF : Hid (zCy s = false) := by show _ = _; rw [HS.out, ← HR.out, HN.out, hd]; rfl
          clear hd
          go_wp2_with fail
          with_reducible refine HLL.out.mono ?_
          rintro e w1 ⟨rfl, rfl⟩
          go_wp2_with fail
          go_ret
          exact ⟨by rw [HF.out]; rfl, Below.refl _ _⟩
      · have HA1 : Hid ((bytes s).all zA6 = true) := by show _ = _; rw [← HR.out, zB9 s k hlt]; rfl
        by_cases h2 : 2 ≤ s.size
        · by_cases h3 : s.size ≤ 16
          · have HF : Hid (zCy s = (!inS zBm s && !inS zBi s)) := by show _ = _; rw [HS.out, HA1.out, decide_eq_true h2, decide_eq_true h3]; rfl
            have hI1 : Hid (∀ (W : World) (v : Value), zAa strE W (Lt W.heap.size) zBm v → Calls Tryz.prog 150 #[v, .string s] W fun e w' => e = .returned (.bool (inS zBm s)) ∧ W = w') := fun W v hv => HI.out W _ v hv
            have hI2 : Hid (∀ (W : World) (v : Value), zAa strE W (Lt W.heap.size) zBi v → Calls Tryz.prog 150 #[v, .string s] W fun e w' => e = .returned (.bool (inS zBi s)) ∧ W = w') := fun W v hv => HI.out W _ v hv
            generalize inS zBm s = b1 at *
            generalize inS zBi s = b2 at *
            cases b1 <;> cases b2
            all_goals
              go_wp2_with fail
              refine (HK.out _).mono ?_
              rintro e w1 ⟨A1, c1, rfl, hs1, hb1⟩
              have H1 := hid hs1
              have HB1 := hid hb1
              clear hs1 hb1
              go_wp2_with fail
              refine (hI1.out _ _ H1.out).mono ?_
              rintro e w2 ⟨rfl, rfl⟩
              go_wp2_with fail
              try (refine (HA.out _).mono ?_; rintro e w3 ⟨A3, c3, rfl, hs3, hb3⟩; have H3 := hid hs3; have HB3 := hid (HB1.out.trans (hb3.mono HB1.out.size)); clear hs3 hb3; go_wp2_with fail; refine (hI2.out _ _ H3.out).mono ?_; rintro e w4 ⟨rfl, rfl⟩; go_wp2_with fail)
              go_ret
              refine ⟨by rw [HF.out]; rfl, by first | exact HB3.out | exact HB1.out⟩
          · have HF : Hid (zCy s = false) := by show _ = _; rw [HS.out, HA1.out, decide_eq_true h2, decide_eq_false h3]; rfl
            have d3 : decide ((s.size : Int) ≤ 16) = false := decide_eq_false (by omega)
            go_wp2_with fail
            go_ret
            exact ⟨by rw [HF.out]; rfl, Below.refl _ _⟩
        · have HF : Hid (zCy s = false) := by show _ = _; rw [HS.out, HA1.out, decide_eq_false h2]; rfl
          have d3 : decide ((2 : Int) ≤ (s.size : Int)) = false := decide_eq_false (by omega)
          go_wp2_with fail
          go_ret
          exact ⟨by rw [HF.out]; rfl, Below.refl _ _⟩
def zB7:ByteArray:=⟨#[40,41,91,93,123,125,124,60,62,47,46]⟩
def zCh (k:Int) (s:ByteArray):Bool :=
 if k = 2 then zCy s else if k = 3 then zDr s else if k = 4 then (decide (s.size≤200) && zA1 (bytes s))
 else if k = 10 then inS zBi s
 else if k = 11 then (decide (s.size = 2) && hasS (bytes zB7) ((bytes s).getD 0 0) && hasS (bytes zB7) ((bytes s).getD 1 0))
 else s.toList.isEmpty
theorem zFf (s:ByteArray) (k:Nat) (h:k < s.size):(bytes s).getD k 0 = (s[k].toNat:Int):=by
 rw [List.getD_eq_getElem?_getD,List.getElem?_eq_getElem (by rw [zEr];exact h),zMd s k h];rfl
theorem zQu (w:World) (o:Obj):Below w.heap.size w (w.alloc o):=(Below.refl _ _).alloc (Nat.le_refl _) _
set_option maxHeartbeats 1000000 in
theorem text_any (k c : Int) (s : ByteArray) (A : Option Addr) (n cap : Nat) (w : World) (hs : s.size ≤ maxLen) :
    Calls Tryz.prog 101 #[.agg #[.int .i64 k, .string s, .int .i64 c, .slice A n cap]] w fun e w' => e = .returned (.bool (zCh k s)) ∧ Below w.heap.size w w' := by
  have HB : Hid (Below w.heap.size w (w.alloc (Obj.cells #[.int .i64 k, .string s, .int .i64 c, .slice A n cap] 24))) := zQu _ _
  have q0 : (w.alloc (Obj.cells #[.int .i64 k, .string s, .int .i64 c, .slice A n cap] 24)).cell? ⟨w.heap.size, 0, none⟩ = some (.int .i64 k) := by rw [World.cell?_alloc_new]; rfl
  clear q0
  by_cases k2 : k = 2
  · subst k2
    have HS := hid (zOg s (w.alloc (Obj.cells #[.int .i64 2, .string s, .int .i64 c, .slice A n cap] 24)) hs)
    have HF : Hid (zCh 2 s = zCy s) := rfl
    go_enter Tryz.func101, Tryz.ntmps101
    go_wp2_with fail
    with_reducible refine HS.out.mono ?_
    rintro e w1 ⟨rfl, hb1⟩
    have HB1 := hid (HB.out.trans (hb1.mono HB.out.size))
    clear hb1
    go_wp2_with fail
    go_ret
    exact ⟨by rw [HF.out]; rfl, HB1.out⟩
  have e2 : (k == 2) = false := by simpa using k2
  by_cases k3 : k = 3
  · subst k3
    clear e2 k2
    have HS := hid (number_q s (w.alloc (Obj.cells #[.int .i64 3, .string s, .int .i64 c, .slice A n cap] 24)) hs)
    have HF : Hid (zCh 3 s = zDr s) := rfl
    go_enter Tryz.func101, Tryz.ntmps101
    go_wp2_with fail
    with_reducible refine HS.out.mono ?_
    rintro e w1 ⟨rfl, rfl⟩
    go_wp2_with fail
    go_ret
    exact ⟨by rw [HF.out]; rfl, HB.out⟩
  have e3 : (k == 3) = false := by simpa using k3
  by_cases k4 : k = 4
  · subst k4
    clear e2 k2 e3 k3
    have HS := hid (zMp s (w.alloc (Obj.cells #[.int .i64 4, .string s, .int .i64 c, .slice A n cap] 24)) hs)
    have HF : Hid (zCh 4 s = (decide (s.size ≤ 200) && zA1 (bytes s))) := rfl
    by_cases h1 : s.size ≤ 200
    · have HG : Hid (zCh 4 s = zA1 (bytes s)) := by show _ = _; rw [HF.out, decide_eq_true h1]; rfl
      go_enter Tryz.func101, Tryz.ntmps101
      go_wp2_with fail
      with_reducible refine HS.out.mono ?_
      rintro e w1 ⟨rfl, rfl⟩
      go_wp2_with fail
      go_ret
      exact ⟨by rw [HG.out]; rfl, HB.out⟩
    · have HG : Hid (zCh 4 s = false) := by show _ = _; rw [HF.out, decide_eq_false h1]; rfl
      have d1 : decide ((s.size : Int) ≤ 200) = false := decide_eq_false (by omega)
      go_enter Tryz.func101, Tryz.ntmps101
      go_wp2_with fail
      go_ret
      exact ⟨by rw [HG.out]; rfl, HB.out⟩
  have e4 : (k == 4) = false := by simpa using k4
  by_cases k10 : k = 10
  · subst k10
    clear e2 k2 e3 k3 e4 k4
    have HF : Hid (zCh 10 s = inS zBi s) := rfl
    obtain ⟨W, hW⟩ : ∃ W, W = w.alloc (Obj.cells #[.int .i64 10, .string s, .int .i64 c, .slice A n cap] 24) := ⟨_, rfl⟩
    have HA : Hid (∀ W, Calls Tryz.prog 151 #[] W (zGh W zBi)) := fun W => zIs W
    have HI : Hid (∀ (W : World) (v : Value), zAa strE W (Lt W.heap.size) zBi v → Calls Tryz.prog 150 #[v, .string s] W fun e w' => e = .returned (.bool (inS zBi s)) ∧ W = w') := fun W v hv => in_q zBi s W v _ hv
    go_enter Tryz.func101, Tryz.ntmps101
    go_wp2_with fail
    have c1 : W.cell? ⟨w.heap.size, 1, none⟩ = some (.string s) := by rw [hW, World.cell?_alloc_new]; rfl
    have z1 : w.heap.size < W.heap.size := by rw [hW]; simp
    have HB1 : Hid (Below w.heap.size w W) := by rw [hW]; exact HB.out
    rw [← hW]
    clear hW HB
    go_region_held3 (fun w' => w'.cell? ⟨w.heap.size, 1, none⟩ = some (.string s)) (go_keep) (first
      | (go_at_call 151; refine (HA.out _).mono ?_; rintro e w1 ⟨A1, c1', rfl, hs1, hb1⟩; have H1 := hid hs1; have hb1' : Below W.heap.size W w1 := ⟨hb1.os, hb1.tape, hb1.output, hb1.size, hb1.block⟩; have HB2 := hid (HB1.out.trans (hb1'.mono HB1.out.size)); have k1 : w1.cell? ⟨w.heap.size, 1, none⟩ = some (.string s) := ((bcell hb1').1 _ _ z1).trans c1; clear hs1 hb1 hb1')
      | (go_at_call 150; refine (HI.out _ _ H1.out).mono ?_; rintro e w2 ⟨rfl, rfl⟩))
    go_wp2_with fail
    go_ret
    exact ⟨by rw [HF.out]; rfl, HB2.out⟩
  have e10 : (k == 10) = false := by simpa using k10
  by_cases k11 : k = 11
  · subst k11
    clear e2 k2 e3 k3 e4 k4 e10 k10
    have HF : Hid (zCh 11 s = (decide (s.size = 2) && hasS (bytes zB7) ((bytes s).getD 0 0) && hasS (bytes zB7) ((bytes s).getD 1 0))) := rfl
    by_cases h2 : s.size = 2
    · have l0 : 0 < s.size := by omega
      have l1 : 1 < s.size := by omega
      have HG : Hid (zCh 11 s = (hasS (bytes zB7) (s[0].toNat : Int) && hasS (bytes zB7) (s[1].toNat : Int))) := by show _ = _; rw [HF.out, decide_eq_true h2, zFf s 0 l0, zFf s 1 l1]; rfl
      have C0 : Hid (∀ W, Calls Tryz.prog 152 #[.string zB7, .int .u8 (s[0].toNat : Int)] W fun e w' => e = .returned (.bool (hasS (bytes zB7) (s[0].toNat : Int))) ∧ W = w') := fun W => has_q zB7 _ W (by decide)
      have C1 : Hid (∀ W, Calls Tryz.prog 152 #[.string zB7, .int .u8 (s[1].toNat : Int)] W fun e w' => e = .returned (.bool (hasS (bytes zB7) (s[1].toNat : Int))) ∧ W = w') := fun W => has_q zB7 _ W (by decide)
      generalize hasS (bytes zB7) (s[0].toNat : Int) = b0 at *
      generalize hasS (bytes zB7) (s[1].toNat : Int) = b1 at *
      unfold zB7 at C0 C1
      have d1 : ((s.size : Int) == 2) = true := by simp; omega
      have i0 : (0 : Int) < (s.size : Int) := by omega
      have i1 : (1 : Int) < (s.size : Int) := by omega
      clear h2
      cases b0 <;> cases b1
      all_goals
        go_enter Tryz.func101, Tryz.ntmps101
        go_wp2_with fail
        refine (C0.out _).mono ?_
        rintro e w1 ⟨rfl, rfl⟩
        go_wp2_with fail
        try (refine (C1.out _).mono ?_; rintro e w1 ⟨rfl, rfl⟩; go_wp2_with fail)
        go_ret
        exact ⟨by rw [HG.out]; rfl, HB.out⟩
    · have HG : Hid (zCh 11 s = false) := by show _ = _; rw [HF.out, decide_eq_false h2]; rfl
      have d1 : ((s.size : Int) == 2) = false := by simp; omega
      clear h2
      go_enter Tryz.func101, Tryz.ntmps101
      go_wp2_with fail
      go_ret
      exact ⟨by rw [HG.out]; rfl, HB.out⟩
  have e11 : (k == 11) = false := by simpa using k11
  have HF : Hid (zCh k s = s.toList.isEmpty) := by show _ = _; unfold zCh; rw [if_neg k2, if_neg k3, if_neg k4, if_neg k10, if_neg k11]
  clear k2 k3 k4 k10 k11
  cases hq : s.toList.isEmpty with
  | true =>
    rw [hq] at HF
    go_enter Tryz.func101, Tryz.ntmps101
    go_wp2_with fail
    go_ret
    exact ⟨by rw [HF.out]; rfl, HB.out⟩
  | false =>
    rw [hq] at HF
    go_enter Tryz.func101, Tryz.ntmps101
    go_wp2_with fail
    go_ret
    exact ⟨by rw [HF.out]; rfl, HB.out⟩
end Go.Proofs.YtbjcioknfjofkaaGreat
