/- Texts put together. -/
import Derived.Test.YthpngeboknmllaaQ44840948bc
set_option linter.unusedVariables false
set_option linter.unusedSimpArgs false
namespace Go.Proofs.Ythpngeboknmllaa
open Go.RowKit
def numGo (n:Nat):List Int→Nat→Nat→Option Nat
 | [],_,p=>some p
 | c :: l,k,p=>if c = 46∧0 < k∧k + 1 < n then numGo n l (k + 1) (p + 1) else if digitS c = true then numGo n l (k + 1) p else none
def numberS (s:ByteArray):Bool :=
 match numGo s.size (bytes s) 0 0 with
 | some p=>decide (0 < s.size∧s.size≤20∧p≤1)
 | none=>false
set_option maxHeartbeats 1000000 in
theorem number_q (s : ByteArray) (w : World) (hs : s.size ≤ maxLen) :
    Calls Try.prog 64 #[.string s] w fun e w' => e = .returned (.bool (numberS s)) ∧ w = w' := by
  unfold maxLen at hs
  have HD : Hid (∀ c : Int, 0 ≤ c → c ≤ 255 → Calls Try.prog 69 #[.int .u8 c] w fun e w' => e = .returned (.bool (digitS c)) ∧ w = w') := fun c h0 h1 => digit_q c w h0 h1
  have HS : Hid (numberS s = match numGo s.size (bytes s) 0 0 with
    | some p => decide (0 < s.size ∧ s.size ≤ 20 ∧ p ≤ 1)
    | none => false) := rfl
  go_enter Try.func64, Try.ntmps64
  go_wp2
  go_loop [3, 4] (fun q i => ∃ k p : Nat, k ≤ s.size ∧ p ≤ k ∧ i = .int .i64 k ∧ q = .int .i64 p ∧ numGo s.size ((bytes s).drop k) k p = numGo s.size (bytes s) 0 0) (fun _ i => s.size - (intOf i).toNat)
  case atStart => exact ⟨0, 0, Nat.zero_le _, Nat.zero_le _, rfl, rfl, rfl⟩
  case round =>
    obtain ⟨k, p, hk, hp, rfl, rfl, hrest⟩ := hrel
    have HR := hid hrest
    clear hrest
    by_cases hlt : k < s.size
    · have HN := hid (bytes_drop s k hlt)
      have hb0 : (0 : Int) ≤ (s[k].toNat : Int) := by omega
      have hb1 : (s[k].toNat : Int) ≤ 255 := by have := s[k].toNat_lt; omega
      by_cases hc : (s[k].toNat : Int) = 46 ∧ 0 < k ∧ k + 1 < s.size
      · have HF : Hid (numGo s.size ((bytes s).drop (k + 1)) (k + 1) (p + 1) = numGo s.size (bytes s) 0 0) := by show _ = _; rw [← HR.out, HN.out, numGo, if_pos hc]
        have e1 : ((s[k].toNat : Int) == 46) = true := by simpa using hc.1
        obtain ⟨_, hc2, hc3⟩ := hc
        have e2 : (0 : Int) < (k : Int) := by omega
        have e3 : (k : Int) < (s.size : Int) - 1 := by omega
        go_wp2_with fail
        go_round
        case rel => exact ⟨k + 1, p + 1, by omega, by omega, by go_num, by go_num, HF.out⟩
        case measure => simp [intOf]; omega
      · cases hd : digitS (s[k].toNat : Int) with
        | true =>
          have HF : Hid (numGo s.size ((bytes s).drop (k + 1)) (k + 1) p = numGo s.size (bytes s) 0 0) := by show _ = _; rw [← HR.out, HN.out, numGo, if_neg hc, if_pos hd]
          have hne : (s[k].toNat : Int) ≠ 46 := by intro h; rw [h] at hd; exact absurd hd (by decide)
          have e1 : ((s[k].toNat : Int) == 46) = false := by simpa using hne
          have HDD := hid (HD.out _ hb0 hb1)
          rw [hd] at HDD
          clear hc hne hd
          go_wp2_with fail
          with_reducible refine HDD.out.mono ?_
          rintro e w1 ⟨rfl, rfl⟩
          go_wp2_with fail
          go_round
          case rel => exact ⟨k + 1, p, by omega, by omega, by go_num, rfl, HF.out⟩
          case measure => simp [intOf]; omega
        | false =>
          have HF : Hid (numberS s = false) := by show _ = _; rw [HS.out, ← HR.out, HN.out, numGo, if_neg hc, if_neg (by rw [hd]; simp)]
          have HDD := hid (HD.out _ hb0 hb1)
          rw [hd] at HDD
          clear hd
          by_cases he : (s[k].toNat : Int) = 46
          · have e1 : ((s[k].toNat : Int) == 46) = true := by simpa using he
            by_cases hk0 : 0 < k
            · have e2 : (0 : Int) < (k : Int) := by omega
              have e3 : (s.size : Int) - 1 ≤ (k : Int) := by omega
              clear hc he
              go_wp2_with fail
              with_reducible refine HDD.out.mono ?_
              rintro e w1 ⟨rfl, rfl⟩
              go_wp2_with fail
              go_ret
              exact ⟨by rw [HF.out]; rfl, rfl⟩
            · obtain rfl : k = 0 := by omega
              clear hc he
              go_wp2_with fail
              with_reducible refine HDD.out.mono ?_
              rintro e w1 ⟨rfl, rfl⟩
              go_wp2_with fail
              go_ret
              exact ⟨by rw [HF.out]; rfl, rfl⟩
          · have e1 : ((s[k].toNat : Int) == 46) = false := by simpa using he
            clear hc he
            go_wp2_with fail
            with_reducible refine HDD.out.mono ?_
            rintro e w1 ⟨rfl, rfl⟩
            go_wp2_with fail
            go_ret
            exact ⟨by rw [HF.out]; rfl, rfl⟩
    · have hke : k = s.size := by omega
      have HF : Hid (numberS s = decide (0 < s.size ∧ s.size ≤ 20 ∧ p ≤ 1)) := by show _ = _; rw [HS.out, ← HR.out, bytes_drop_end s k hlt, numGo]
      by_cases h1 : 0 < s.size
      · by_cases h2 : s.size ≤ 20
        · by_cases h3 : p ≤ 1
          · clear hke
            go_wp2_with fail
            go_ret
            exact ⟨by rw [HF.out, show decide (0 < s.size ∧ s.size ≤ 20 ∧ p ≤ 1) = true from decide_eq_true ⟨h1, h2, h3⟩]; first | done | rfl | (simp; done) | (simp; omega), rfl⟩
          · have h3' : decide ((p : Int) ≤ 1) = false := by simp; omega
            clear hke
            go_wp2_with fail
            go_ret
            exact ⟨by rw [HF.out, show decide (0 < s.size ∧ s.size ≤ 20 ∧ p ≤ 1) = false from decide_eq_false (fun h => h3 h.2.2)]; first | done | rfl | (simp; done) | (simp; omega), rfl⟩
        · have h2' : decide ((s.size : Int) ≤ 20) = false := by simp; omega
          clear hke
          go_wp2_with fail
          go_ret
          exact ⟨by rw [HF.out, show decide (0 < s.size ∧ s.size ≤ 20 ∧ p ≤ 1) = false from decide_eq_false (fun h => h2 h.2.1)]; first | done | rfl | (simp; done) | (simp; omega), rfl⟩
      · have h1' : decide ((0 : Int) < (s.size : Int)) = false := decide_eq_false (by omega)
        clear hke
        go_wp2_with fail
        go_ret
        exact ⟨by rw [HF.out, show decide (0 < s.size ∧ s.size ≤ 20 ∧ p ≤ 1) = false from decide_eq_false (fun h => h1 h.1)]; first | done | rfl | (simp; done) | (simp; omega), rfl⟩
def symbolS (s:ByteArray):Bool :=
 if s.size = 1 then characterS ((bytes s).headD 0)
 else ((bytes s).all letterS && decide (2≤s.size) && decide (s.size≤16) && !inS keywordsL s && !inS accentsL s)
theorem allL_drop (s:ByteArray) (k:Nat) (h:k < s.size):((bytes s).drop k).all letterS = (letterS (s[k].toNat:Int) && ((bytes s).drop (k + 1)).all letterS):=by
 rw [bytes_drop s k h];rfl
set_option maxHeartbeats 1000000 in
theorem symbol_any (s : ByteArray) (w : World) (hs : s.size ≤ maxLen) :
    Calls Try.prog 23 #[.string s] w fun e w' => e = .returned (.bool (symbolS s)) ∧ Below w.heap.size w w' := by
  unfold maxLen at hs
  have HL : Hid (∀ c : Int, 0 ≤ c → c ≤ 255 → Calls Try.prog 34 #[.int .u8 c] w fun e w' => e = .returned (.bool (letterS c)) ∧ w = w') := fun c h0 h1 => letter_q c w h0 h1
  by_cases h1 : s.size = 1
  · have h0 : 0 < s.size := by omega
    have hb1 : (s[0].toNat : Int) ≤ 255 := by have := s[0].toNat_lt; omega
    have HC := hid (character_q (s[0].toNat : Int) w (by omega) hb1)
    have HF : Hid (symbolS s = characterS (s[0].toNat : Int)) := by
      show _ = _; unfold symbolS; rw [if_pos h1]
      have := bytes_drop s 0 h0
      rw [List.drop_zero] at this
      rw [this]; rfl
    have e1 : ((s.size : Int) == 1) = true := by simp; omega
    have i1 : (0 : Int) < (s.size : Int) := by omega
    clear h1
    go_enter Try.func23, Try.ntmps23
    go_wp2_with fail
    with_reducible refine HC.out.mono ?_
    rintro e w1 ⟨rfl, rfl⟩
    go_wp2_with fail
    go_ret
    exact ⟨by rw [HF.out]; rfl, Below.refl _ _⟩
  · have e1 : ((s.size : Int) == 1) = false := by simp; omega
    have HS : Hid (symbolS s = ((bytes s).all letterS && decide (2 ≤ s.size) && decide (s.size ≤ 16) && !inS keywordsL s && !inS accentsL s)) := by show _ = _; unfold symbolS; rw [if_neg h1]
    have HK : Hid (∀ W, Calls Try.prog 36 #[] W (StrsPost W keywordsL)) := fun W => keywords_any W
    have HA : Hid (∀ W, Calls Try.prog 37 #[] W (StrsPost W accentsL)) := fun W => accents_any W
    have HI : Hid (∀ (W : World) (l : List ByteArray) (v : Value), SliceR strE W (Lt W.heap.size) l v → Calls Try.prog 35 #[v, .string s] W fun e w' => e = .returned (.bool (inS l s)) ∧ W = w') := fun W l v hv => in_q l s W v _ hv
    clear h1
    go_enter Try.func23, Try.ntmps23
    go_wp2_with fail
    go_loop [3] (fun i => ∃ k : Nat, k ≤ s.size ∧ i = .int .i64 k ∧ ((bytes s).drop k).all letterS = (bytes s).all letterS) (fun i => s.size - (intOf i).toNat)
    case atStart => exact ⟨0, Nat.zero_le _, rfl, rfl⟩
    case round =>
      obtain ⟨k, hk, rfl, hrest⟩ := hrel
      have HR := hid hrest
      clear hrest
      by_cases hlt : k < s.size
      · have HN := hid (allL_drop s k hlt)
        have hb0 : (0 : Int) ≤ (s[k].toNat : Int) := by omega
        have hb1 : (s[k].toNat : Int) ≤ 255 := by have := s[k].toNat_lt; omega
        have HLL := hid (HL.out _ hb0 hb1)
        cases hd : letterS (s[k].toNat : Int) with
        | true =>
          rw [hd] at HLL
          have HF : Hid (((bytes s).drop (k + 1)).all letterS = (bytes s).all letterS) := by show _ = _; rw [← HR.out, HN.out, hd]; rfl
          clear hd
          go_wp2_with fail
          with_reducible refine HLL.out.mono ?_
          rintro e w1 ⟨rfl, rfl⟩
          go_wp2_with fail
          go_round
          case rel => exact ⟨k + 1, by omega, by go_num, HF.out⟩
          case measure => simp [intOf]; omega
        | false =>
          rw [hd] at HLL
          have HF : Hid (symbolS s = false) := by show _ = _; rw [HS.out, ← HR.out, HN.out, hd]; rfl
          clear hd
          go_wp2_with fail
          with_reducible refine HLL.out.mono ?_
          rintro e w1 ⟨rfl, rfl⟩
          go_wp2_with fail
          go_ret
          exact ⟨by rw [HF.out]; rfl, Below.refl _ _⟩
      · have HA1 : Hid ((bytes s).all letterS = true) := by show _ = _; rw [← HR.out, bytes_drop_end s k hlt]; rfl
        by_cases h2 : 2 ≤ s.size
        · by_cases h3 : s.size ≤ 16
          · have HF : Hid (symbolS s = (!inS keywordsL s && !inS accentsL s)) := by show _ = _; rw [HS.out, HA1.out, decide_eq_true h2, decide_eq_true h3]; rfl
            have hI1 : Hid (∀ (W : World) (v : Value), SliceR strE W (Lt W.heap.size) keywordsL v → Calls Try.prog 35 #[v, .string s] W fun e w' => e = .returned (.bool (inS keywordsL s)) ∧ W = w') := fun W v hv => HI.out W _ v hv
            have hI2 : Hid (∀ (W : World) (v : Value), SliceR strE W (Lt W.heap.size) accentsL v → Calls Try.prog 35 #[v, .string s] W fun e w' => e = .returned (.bool (inS accentsL s)) ∧ W = w') := fun W v hv => HI.out W _ v hv
            generalize inS keywordsL s = b1 at *
            generalize inS accentsL s = b2 at *
            cases b1 <;> cases b2
            all_goals
              go_wp2_with fail
              refine (HK.out _).mono ?_
              rintro e w1 ⟨A1, c1, rfl, hs1, hb1⟩
              have H1 := hid hs1
              have HB1 := hid hb1
              clear hs1 hb1
              go_wp2_with fail
              refine (hI1.out _ _ H1.out).mono ?_
              rintro e w2 ⟨rfl, rfl⟩
              go_wp2_with fail
              try (refine (HA.out _).mono ?_; rintro e w3 ⟨A3, c3, rfl, hs3, hb3⟩; have H3 := hid hs3; have HB3 := hid (HB1.out.trans (hb3.mono HB1.out.size)); clear hs3 hb3; go_wp2_with fail; refine (hI2.out _ _ H3.out).mono ?_; rintro e w4 ⟨rfl, rfl⟩; go_wp2_with fail)
              go_ret
              refine ⟨by rw [HF.out]; rfl, by first | exact HB3.out | exact HB1.out⟩
          · have HF : Hid (symbolS s = false) := by show _ = _; rw [HS.out, HA1.out, decide_eq_true h2, decide_eq_false h3]; rfl
            have d3 : decide ((s.size : Int) ≤ 16) = false := decide_eq_false (by omega)
            go_wp2_with fail
            go_ret
            exact ⟨by rw [HF.out]; rfl, Below.refl _ _⟩
        · have HF : Hid (symbolS s = false) := by show _ = _; rw [HS.out, HA1.out, decide_eq_false h2]; rfl
          have d3 : decide ((2 : Int) ≤ (s.size : Int)) = false := decide_eq_false (by omega)
          go_wp2_with fail
          go_ret
          exact ⟨by rw [HF.out]; rfl, Below.refl _ _⟩
end Go.Proofs.Ythpngeboknmllaa
