/- Texts put together. -/
import Derived.Test.YthpngeboknmllaaQfc5c0b8626
set_option linter.unusedVariables false
set_option linter.unusedSimpArgs false
set_option maxRecDepth 100000
namespace Go.Proofs.Ythpngeboknmllaa
open Go.RowKit
theorem strIndex_one (s:ByteArray) (c:UInt8) (w:World) :
  Calls Try.prog 41 #[.string s,.string ⟨#[c]⟩] w fun e w'=>e = .returned (.int .i64 (Lib.indexByte s.data.toList c))∧w' = w:=by
 go_enter Try.func41,Try.ntmps41
 go_wp2_with fail
 refine (index_one _ _ _).mono ?_
 rintro e w' ⟨rfl,rfl⟩
 go_wp2_with fail
 go_ret
 exact ⟨rfl,rfl⟩
theorem contains_one (s:ByteArray) (c:UInt8) (w:World) :
  Calls Try.prog 26 #[.string s,.string ⟨#[c]⟩] w fun e w'=>e = .returned (.bool (decide (0≤Lib.indexByte s.data.toList c)))∧w' = w:=by
 have HC:=hid (strIndex_one s c w)
 generalize Lib.indexByte s.data.toList c = i at *
 by_cases h:0≤i
 ·rw [decide_eq_true h]
  go_enter Try.func26,Try.ntmps26
  go_wp2_with fail
  refine HC.out.mono ?_
  rintro e w' ⟨rfl,rfl⟩
  go_wp2_with fail
  go_ret
  exact ⟨rfl,rfl⟩
 ·rw [decide_eq_false h]
  have hd:decide (0≤i) = false:=decide_eq_false h
  go_enter Try.func26,Try.ntmps26
  go_wp2_with fail
  refine HC.out.mono ?_
  rintro e w' ⟨rfl,rfl⟩
  go_wp2_with fail
  go_ret
  exact ⟨by first | rfl | (simp;done) | (simp;omega),rfl⟩
def CutPost (w:World) (s:ByteArray) (e:Ending) (w':World):Prop :=
 (∃ n,w' = w.drewN n)∧((Lib.indexByte s.data.toList 46 = -1∧e = .returned (.tuple #[.string s,.string ⟨#[]⟩,.bool false])) ∨
  ∃ i:Nat,Lib.indexByte s.data.toList 46 = i∧i < s.size∧e = .returned (.tuple #[.string (s.extract 0 i),.string (s.extract (i + 1) s.size),.bool true]))
theorem indexByte_cases (s:ByteArray) (c:UInt8):Lib.indexByte s.data.toList c = -1∨∃ i:Nat,Lib.indexByte s.data.toList c = i∧i < s.size:=by
 have h:=Lib.indexByte_ge s.data.toList c
 by_cases h1:Lib.indexByte s.data.toList c = -1
 ·exact .inl h1
 ·refine .inr ⟨(Lib.indexByte s.data.toList c).toNat,by omega,?_⟩
  have:=(Lib.indexByte_some (l:=s.data.toList) (c:=c) (o:=(Lib.indexByte s.data.toList c).toNat) (by omega)).1
  have h3:=(List.getElem?_eq_some_iff.1 this).1
  simpa using h3
set_option maxHeartbeats 2000000 in
theorem cut_dot (s:ByteArray) (w:World) (hs:s.size≤maxLen):Calls Try.prog 68 #[.string s,.string ⟨#[46]⟩] w (CutPost w s):=by
 have HI:=hid (index_one s 46 w)
 unfold maxLen at hs
 rcases indexByte_cases s 46 with hi | ⟨i,hi,hlt⟩
 ·have HE:=hid hi
  rw [hi] at HI
  clear hi
  go_enter Try.func68,Try.ntmps68
  go_wp2_with fail
  refine HI.out.mono ?_
  rintro e w' ⟨rfl,rfl⟩
  go_wp2_with fail
  go_ret3
  exact ⟨⟨0,rfl⟩,.inl ⟨HE.out,rfl⟩⟩
 ·have HE:=hid hi
  rw [hi] at HI
  clear hi
  have c1:(0:Int)≤↑i:=by omega
  have c2:(↑i:Int)≤↑s.size:=by omega
  have c3:(0:Int)≤↑i + 1:=by omega
  have c4:(↑i + 1:Int)≤↑s.size:=by omega
  go_enter Try.func68,Try.ntmps68
  go_wp2_with fail
  refine HI.out.mono ?_
  rintro e w' ⟨rfl,rfl⟩
  go_wp2_with fail
  go_region
  go_wp2
  go_ret3
  exact ⟨⟨1,rfl⟩,.inr ⟨i,HE.out,hlt,rfl⟩⟩
set_option maxHeartbeats 1000000 in
theorem stringsCut_dot (s:ByteArray) (w:World) (hs:s.size≤maxLen):Calls Try.prog 61 #[.string s,.string ⟨#[46]⟩] w (CutPost w s):=by
 have HI:=hid (cut_dot s w hs)
 go_enter Try.func61,Try.ntmps61
 go_wp2_with fail
 refine HI.out.mono ?_
 rintro e w' ⟨⟨n,rfl⟩,(⟨hi,rfl⟩ | ⟨i,hi,hlt,rfl⟩)⟩
 ·have HE:=hid hi
  clear hi
  go_wp2_with fail
  go_ret3
  exact ⟨⟨n,rfl⟩,.inl ⟨HE.out,rfl⟩⟩
 ·have HE:=hid hi
  clear hi
  go_wp2_with fail
  go_ret3
  exact ⟨⟨n,rfl⟩,.inr ⟨i,HE.out,hlt,rfl⟩⟩
def digs (l:List Int):Bool:=l.all digitS && !l.isEmpty
theorem numGo_no (n : Nat) : ∀ (l : List Int) (k p : Nat), (46 : Int) ∉ l → numGo n l k p = if l.all digitS = true then some p else none
  | [], k, p, _ => by simp [numGo]
  | c :: l, k, p, h => by
    simp only [List.mem_cons, not_or] at h
    rw [numGo, if_neg (fun e => h.1 e.1.symm), List.all_cons]
    cases hd : digitS c with
    | true => rw [if_pos rfl, numGo_no n l _ _ h.2]; simp
    | false => simp
theorem numGo_dot (n : Nat) (b : List Int) : ∀ (a : List Int) (k p : Nat), (46 : Int) ∉ a → numGo n (a ++ 46 :: b) k p = if a.all digitS = true ∧ 0 < k + a.length ∧ k + a.length + 1 < n then numGo n b (k + a.length + 1) (p + 1) else none
  | [], k, p, _ => by
    rw [List.nil_append, numGo]
    by_cases h : 0 < k ∧ k + 1 < n
    · rw [if_pos ⟨rfl, h⟩, if_pos ⟨rfl, by simpa using h⟩]; simp
    · rw [if_neg (fun e => h e.2), if_neg (by decide), if_neg (fun e => h (by simpa using e.2))]
  | c :: a, k, p, h => by
    simp only [List.mem_cons, not_or] at h
    rw [List.cons_append, numGo, if_neg (fun e => h.1 e.1.symm), List.all_cons]
    cases hd : digitS c with
    | true =>
      rw [if_pos rfl, numGo_dot n b a _ _ h.2, List.length_cons, Bool.true_and, show k + 1 + a.length = k + (a.length + 1) by omega]
    | false => simp
theorem numGo_two (n : Nat) : ∀ (l : List Int) (k p : Nat), 1 ≤ p → (∃ q, numGo n l k p = some q ∧ q ≤ 1) → p ≤ 1 ∧ l.all digitS = true
  | [], k, p, hp, ⟨q, h, hq⟩ => by simp [numGo] at h; subst h; exact ⟨hq, rfl⟩
  | c :: l, k, p, hp, ⟨q, h, hq⟩ => by
    rw [numGo] at h
    split at h
    · have := (numGo_two n l (k + 1) (p + 1) (by omega) ⟨q, h, hq⟩).1; omega
    · split at h
      · rename_i hd
        have := numGo_two n l (k + 1) p hp ⟨q, h, hq⟩
        exact ⟨this.1, by rw [List.all_cons, hd, this.2]; rfl⟩
      · cases h
theorem no_dot_of_digits {l:List Int} (h:l.all digitS = true):(46:Int) ∉ l:=by
 intro hm
 rw [List.all_eq_true] at h
 exact absurd (h _ hm) (by decide)
theorem bytes_extract (s:ByteArray) (a b:Nat):bytes (s.extract a b) = ((bytes s).drop a).take (b - a):=by
 unfold bytes;rw [Lib.extract_data,List.map_take,List.map_drop]
theorem number_none (s : ByteArray) (h : Lib.indexByte s.data.toList 46 = -1) : numberS s = (decide (s.size ≤ 20) && digs (bytes s)) := by
  have h46 : (46 : Int) ∉ bytes s := by
    intro hm
    unfold bytes at hm
    obtain ⟨b, hb, e⟩ := List.mem_map.1 hm
    obtain ⟨k, hk⟩ := List.getElem?_of_mem hb
    have hb' : b = 46 := by
      have : b.toNat = 46 := by omega
      exact UInt8.toNat_inj.1 this
    exact Lib.indexByte_none h k (by rw [hk, hb'])
  unfold numberS
  rw [numGo_no _ _ _ _ h46, digs]
  have hl := bytes_len s
  cases ha : (bytes s).all digitS with
  | false => simp
  | true =>
    rw [if_pos rfl]
    show decide (0 < s.size ∧ s.size ≤ 20 ∧ 0 ≤ 1) = _
    by_cases h0 : s.size = 0
    · have : bytes s = [] := List.eq_nil_of_length_eq_zero (by omega)
      rw [this]; simp [h0]
    · have : (bytes s).isEmpty = false := by rw [List.isEmpty_eq_false_iff]; intro e; rw [e] at hl; simp at hl; omega
      rw [this, Bool.eq_iff_iff]
      simp; omega
theorem number_some (s : ByteArray) (i : Nat) (h : Lib.indexByte s.data.toList 46 = i) (hi : i < s.size) :
    numberS s = (decide (s.size ≤ 20) && (digs (bytes (s.extract 0 i)) && digs (bytes (s.extract (i + 1) s.size)))) := by
  have hl := bytes_len s
  obtain ⟨g1, g2⟩ := Lib.indexByte_some h
  have hsplit : bytes s = (bytes s).take i ++ 46 :: (bytes s).drop (i + 1) := by
    conv => lhs; rw [← List.take_append_drop i (bytes s)]
    rw [bytes_drop s i hi]
    have : (s[i].toNat : Int) = 46 := by
      have hx : s.data.toList[i]? = some s[i] := by rw [List.getElem?_eq_getElem (by simpa using hi)]; rfl
      rw [hx] at g1; injection g1 with g1; rw [g1]; rfl
    rw [this]
  have h46 : (46 : Int) ∉ (bytes s).take i := by
    intro hm
    obtain ⟨k, hk⟩ := List.getElem?_of_mem hm
    rw [List.getElem?_take] at hk
    split at hk
    · rename_i hki
      unfold bytes at hk
      rw [List.getElem?_map] at hk
      obtain ⟨b, hb, e⟩ := Option.map_eq_some_iff.1 hk
      have hb' : b = 46 := by
        have : b.toNat = 46 := by omega
        exact UInt8.toNat_inj.1 this
      exact g2 k hki (by rw [hb, hb'])
    · cases hk
  rw [bytes_extract, bytes_extract, List.drop_zero, Nat.sub_zero, List.take_of_length_le (l := (bytes s).drop (i + 1)) (by rw [List.length_drop, hl]; omega)]
  generalize hb : (bytes s).drop (i + 1) = b at *
  have hblen : b.length = s.size - (i + 1) := by rw [← hb, List.length_drop, hl]
  have halen : ((bytes s).take i).length = i := by rw [List.length_take, hl]; omega
  generalize ha : (bytes s).take i = a at *
  unfold numberS
  rw [hsplit, numGo_dot _ _ _ _ _ h46, halen]
  have ea : a.isEmpty = decide (i = 0) := by rw [Bool.eq_iff_iff, List.isEmpty_iff_length_eq_zero, halen]; simp
  have eb : b.isEmpty = decide (¬ i + 1 < s.size) := by rw [Bool.eq_iff_iff, List.isEmpty_iff_length_eq_zero, hblen]; simp; omega
  unfold digs
  rw [ea, eb]
  by_cases hc : a.all digitS = true ∧ 0 < 0 + i ∧ 0 + i + 1 < s.size
  · rw [if_pos hc]
    obtain ⟨c1, c2, c3⟩ := hc
    rw [c1, decide_eq_false (show ¬ i = 0 by omega), decide_eq_false (show ¬ ¬ i + 1 < s.size by omega)]
    cases hbd : b.all digitS with
    | true =>
      rw [numGo_no _ _ _ _ (no_dot_of_digits hbd), if_pos hbd]
      show decide (0 < s.size ∧ s.size ≤ 20 ∧ 0 + 1 ≤ 1) = _
      rw [Bool.eq_iff_iff]; simp; omega
    | false =>
      have hno : ¬ ∃ q, numGo s.size b (0 + i + 1) (0 + 1) = some q ∧ q ≤ 1 := fun h => by
        have := (numGo_two _ _ _ _ (by omega) h).2
        rw [hbd] at this; cases this
      cases hq : numGo s.size b (0 + i + 1) (0 + 1) with
      | none => simp
      | some q =>
        have : ¬ q ≤ 1 := fun h => hno ⟨q, hq, h⟩
        show decide (0 < s.size ∧ s.size ≤ 20 ∧ q ≤ 1) = _
        rw [decide_eq_false (fun e => this e.2.2)]; simp
  · rw [if_neg hc]
    show false = _
    symm
    rw [Bool.eq_false_iff]
    intro h
    simp only [Bool.and_eq_true, Bool.not_eq_true', decide_eq_true_eq, decide_eq_false_iff_not] at h
    exact hc ⟨h.2.1.1, by omega, by omega⟩
theorem digs_eq (s:ByteArray):digs (bytes s) = ((bytes s).all digitS && !s.toList.isEmpty):=by
 unfold digs
 congr 2
 rw [Lib.toList_data];unfold bytes;rw [Bool.eq_iff_iff];simp
end Go.Proofs.Ythpngeboknmllaa
