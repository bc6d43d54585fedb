/- Texts put together: Awk11, Law42, Sel6, Awk10. -/
import Derived.Test.YtmahiejfniaahaaGreatDoorGR
import Derived.Test.YtmahiejfniaahaaGreatDoorGJ
import Derived.Test.YtmahiejfniaahaaGreatDoorGF
import Derived.Deep.QuietTactic
import Derived.BigQuiet
import Derived.Test.YtmahiejfniaahaaGreatDoorGP
import Derived.Test.YtmahiejfniaahaaGreatDoorGD
set_option linter.unusedVariables false
set_option linter.unusedSimpArgs false
set_option maxRecDepth 100000
namespace Go.Proofs.YtmahiejfniaahaaGreatDoor
open Go.RowKit
theorem trees_lit (W : World) (ts : List Tree) (arr : Array Value) (cs : List Value) (harr : arr = cs.toArray) (h : ListR treeE W (Lt W.heap.size) ts cs) (hl : ts.length ≤ maxLen) (n g : Nat) (hn : n = ts.length) (hg : g = W.heap.size) (e : TypeId) :
    SliceR treeE (W.alloc (.cells arr e)) (Lt (W.alloc (.cells arr e)).heap.size) ts (.slice (some ⟨g, 0, none⟩) n n) := by
  subst harr hn hg
  have hb : Below W.heap.size W (W.alloc (.cells cs.toArray e)) := below_allocR' _ _
  refine ⟨_, _, cs, rfl, Nat.le_refl _, hl, fun _ => ⟨W.heap.size, 0, rfl, by unfold Lt; simp, fun j x hx => ?_⟩, h.keep (Same.of_below hb (Nat.le_refl _)) (Lt.mono hb.size)⟩
  rw [Nat.zero_add, World.cell?_alloc_new]
  simpa using hx
theorem tree_cells (W : World) (S : Nat → Prop) (k c : Int) (s : ByteArray) (ts : List Tree) (v : Value) (hk : In64 k) (hc : In64 c) (hs : s.size ≤ maxLen) (h : SliceR treeE W S ts v) : treeE.R W S (.mk k s c ts) [.int .i64 k, .string s, .int .i64 c, v] :=
  treeR_mk.2 ⟨v, rfl, hk, hc, hs, h⟩
def symT (s : ByteArray) : Tree := .mk 2 s 0 []
theorem sym_cells (W : World) (S : Nat → Prop) (s : ByteArray) (hs : s.size ≤ maxLen) : treeE.R W S (symT s) [.int .i64 2, .string s, .int .i64 0, .slice none 0 0] := tree_cells W S 2 0 s [] _ (by simp [In64]) (by simp [In64]) hs (SliceR.nil_ 0 (by simp) none)
def rowT' (ts : List Tree) : Tree := .mk 1 ⟨#[]⟩ 0 ts
theorem tx0 (k : Int) (h : k = 1 ∨ k = 5) : textS k ⟨#[]⟩ = true := by
  unfold textS
  rw [if_neg (by omega), if_neg (by omega), if_neg (by omega), if_neg (by omega), if_neg (by omega), Lib.toList_data]; rfl
theorem sz_le {s : ByteArray} (h : s.size ≤ 1000) : s.size ≤ maxLen := by unfold maxLen; omega
end Go.Proofs.YtmahiejfniaahaaGreatDoor
set_option linter.unusedVariables false
set_option linter.unusedSimpArgs false
set_option maxRecDepth 100000
namespace Go.Proofs.YtmahiejfniaahaaGreatDoor
open Go.RowKit
set_option maxHeartbeats 2000000 in
theorem sameI_q (xs ys : List Int) (w : World) (S S' : Nat → Prop) (A B : Option Addr) (ca cb : Nat) (ha : IntsR w S xs (.slice A xs.length ca)) (hb : IntsR w S' ys (.slice B ys.length cb)) :
    Calls Tryz.prog 25 #[.slice A xs.length ca, .slice B ys.length cb] w fun e w' => e = .returned (.bool (decide (xs = ys))) ∧ ∃ n, w' = w.drewN n := by
  have hm := ha.lens
  have hm2 := hb.lens
  unfold maxLen at hm hm2
  obtain ⟨_, _, rs, e, _, _, hrd, hls⟩ := ha
  cases e
  obtain ⟨_, _, rs', e, _, _, hrd', hls'⟩ := hb
  cases e
  by_cases hl : xs.length = ys.length
  rotate_left
  · have i0 : ((xs.length : Int) != (ys.length : Int)) = true := by simp; omega
    have hF : decide (xs = ys) = false := by rw [decide_eq_false_iff_not]; intro h; subst h; exact hl rfl
    rw [hF]
    clear hF hrd hls hrd' hls' hl
    go_enter Tryz.func25, Tryz.ntmps25
    go_wp2_with fail
    go_ret
    exact ⟨rfl, 0, rfl⟩
  have HL := hid hl
  have HX : Hid (∀ k (hk : k < xs.length), ∃ g o, A = some ⟨g, o, none⟩ ∧ w.cell? ⟨g, o + k, none⟩ = some (.int .i64 xs[k])) := fun k hk => by
    obtain ⟨g, o, e, _, _, hc⟩ := ints_at hrd hls hk
    exact ⟨g, o, e, hc⟩
  have HY : Hid (∀ k (hk : k < ys.length), ∃ g o, B = some ⟨g, o, none⟩ ∧ w.cell? ⟨g, o + k, none⟩ = some (.int .i64 ys[k])) := fun k hk => by
    obtain ⟨g, o, e, _, _, hc⟩ := ints_at hrd' hls' hk
    exact ⟨g, o, e, hc⟩
  have i0 : ((xs.length : Int) != (ys.length : Int)) = false := by simp; omega
  obtain ⟨R, hR⟩ : ∃ R, decide (xs = ys) = R := ⟨_, rfl⟩
  rw [hR]
  have HR := hid hR
  clear hrd hls hrd' hls' hl hR
  go_enter Tryz.func25, Tryz.ntmps25
  go_wp2_with fail
  go_loopw [5] (fun i wr => (∃ n, wr = w.drewN n) ∧ ∃ k : Nat, k ≤ xs.length ∧ i = .int .i64 k ∧ xs.take k = ys.take k) (fun i _ => xs.length - (intOf i).toNat)
  case atStart => exact ⟨⟨0, rfl⟩, 0, Nat.zero_le _, rfl, rfl⟩
  case round =>
    obtain ⟨⟨n, rfl⟩, k, hk, rfl, htk⟩ := hrel
    have HT := hid htk
    clear htk
    rcases Nat.lt_or_ge k xs.length with hlt | hge
    · have hlt2 : k < ys.length := by have := HL.out; omega
      obtain ⟨g, o, rfl, hc⟩ := HX.out k hlt
      obtain ⟨g2, o2, rfl, hc2⟩ := HY.out k hlt2
      have HN : Hid (xs.take (k + 1) = ys.take (k + 1) ↔ xs[k] = ys[k]) := by
        show _ ↔ _
        rw [List.take_succ_eq_append_getElem hlt, List.take_succ_eq_append_getElem hlt2, HT.out]
        exact ⟨fun h => by have h2 := List.append_cancel_left h; injection h2, fun h => by rw [h]⟩
      have i1 : decide ((k : Int) < (xs.length : Int)) = true := by rw [decide_eq_true_eq]; omega
      have i2 : (0 : Int) ≤ (k : Int) := by omega
      have i3 : (k : Int) < (xs.length : Int) := by omega
      have i4 : (k : Int) < (ys.length : Int) := by omega
      generalize xs[k] = x at *
      generalize ys[k] = y at *
      by_cases hxy : x = y
      · subst hxy
        have d0 : (x != x) = false := by simp
        go_wp2_with fail
        go_quiet (fail)
        go_wp2_with fail
        go_roundw
        case rel => exact ⟨by first | exact ⟨_, rfl⟩ | (simp only [World.drewN_drewN]; exact ⟨_, rfl⟩), k + 1, by omega, by go_num, HN.out.2 (by trivial)⟩
        case measure => simp [intOf]; omega
      · have d0 : (x != y) = true := by simpa using hxy
        have hF : R = false := by
          rw [← HR.out, decide_eq_false_iff_not]
          intro h
          exact hxy (HN.out.1 (by rw [h]))
        have HF := hid hF
        clear hF
        go_wp2_with fail
        go_quiet (fail)
        go_wp2_with fail
        go_ret
        exact ⟨by rw [HF.out]; rfl, by first | exact ⟨_, rfl⟩ | (simp only [World.drewN_drewN]; exact ⟨_, rfl⟩)⟩
    · have i1 : decide ((k : Int) < (xs.length : Int)) = false := by rw [decide_eq_false_iff_not]; omega
      have hF : R = true := by
        rw [← HR.out, decide_eq_true_eq]
        have h := HT.out
        rw [List.take_of_length_le hge, List.take_of_length_le (by have := HL.out; omega)] at h
        exact h
      have HF := hid hF
      clear hF
      go_wp2_with fail
      go_ret
      exact ⟨by rw [HF.out]; rfl, _, rfl⟩
def ruleF (a b c : Int) : BxF := ⟨2, ⟨#[]⟩, 0, a, b, c, 0, 0, 0, []⟩
def ruleB (a b c : Int) : Bx := .mk (ruleF a b c) []
theorem rule1_valid : validB (ruleB 1 1 1) = true := by decide +kernel
theorem rule_any (a b c : Int) (w : World) :
    Calls Tryz.prog 32 #[.int .i64 a, .int .i64 b, .int .i64 c] w fun e w' => e = .returned (.agg #[.int .i64 2, .string ⟨#[]⟩, .int .i64 0, .int .i64 a, .int .i64 b, .int .i64 c, .int .i64 0, .int .i64 0, .slice none 0 0, .int .i64 0, .slice none 0 0]) ∧ Below w.heap.size w w' := by
  go_enter Tryz.func32, Tryz.ntmps32
  go_wp2_with fail
  refine bodyPost_ret (v := .agg #[.int .i64 2, .string ⟨#[]⟩, .int .i64 0, .int .i64 a, .int .i64 b, .int .i64 c, .int .i64 0, .int .i64 0, .slice none 0 0, .int .i64 0, .slice none 0 0]) (by simp [results, Tryz.results32, go_sem]) rfl ⟨rfl, bNew _ _⟩
theorem toRow42 (w : World) (A : Option Addr) (n c : Nat) :
    Calls Tryz.prog 54 #[.slice A n c] w fun e w' => e = .returned (.agg #[.int .i64 1, .string ⟨#[]⟩, .int .i64 0, .slice A n c]) ∧ Below w.heap.size w w' := by
  go_enter Tryz.func54, Tryz.ntmps54
  go_wp2_with fail
  refine bodyPost_ret (v := .agg #[.int .i64 1, .string ⟨#[]⟩, .int .i64 0, .slice A n c]) (by simp [results, Tryz.results54, go_sem]) rfl ⟨rfl, bNew _ _⟩
theorem ruleIn (w : World) (a b c : Int) (ha : In64 a) (hb : In64 b) (hc : In64 c) : BoxIn w (ruleB a b c) none none 0 0 :=
  ⟨⟨by simp [ruleB, ruleF, Bx.f, In64], Nat.zero_le _, by simp [ruleB, ruleF, Bx.f, In64], ha, hb, hc, by simp [ruleB, ruleF, Bx.f, In64], by simp [ruleB, ruleF, Bx.f, In64], by simp [ruleB, ruleF, Bx.f, In64]⟩, SliceR.nil_ 0 (Nat.zero_le _) none, SliceR.nil_ 0 (Nat.zero_le _) none⟩
end Go.Proofs.YtmahiejfniaahaaGreatDoor
set_option linter.unusedVariables false
set_option linter.unusedSimpArgs false
set_option maxRecDepth 100000
namespace Go.Proofs.YtmahiejfniaahaaGreatDoor
open Go.RowKit
mutual
theorem leftS_count : (t : Tree) → (m : Int) → 0 ≤ leftS t m → leftS t m = m - countS t
  | .mk _ _ _ ts, m, h => by
    rw [leftS] at h ⊢
    rw [countS, leftsS_count ts (m - 1) h]; omega
theorem leftsS_count : (ts : List Tree) → (m : Int) → 0 ≤ leftsS ts m → leftsS ts m = m - countsS ts
  | [], m, h => by rw [leftsS, countsS]; omega
  | t :: ts, m, h => by
    rw [leftsS] at h ⊢
    split at h
    · rename_i h0
      rw [if_pos h0]
      have h1 := leftsS_count ts (leftS t m) h
      have h2 := leftS_count t m (by omega)
      rw [h1, h2, countsS]; omega
    · rename_i h0; omega
end
theorem few_count {t : Tree} {m : Int} (h : fewS t m = true) : (countS t : Int) ≤ m := by
  unfold fewS at h
  have h' : 0 ≤ leftS t m := by simpa using h
  have := leftS_count t m h'
  omega
def betV (b1 b2 b3 : Bool) (r : List Int × Int × Int) : (List Int × Int × Int) × Int := if b1 = false then (([], 0, 0), 1) else if (b2 && b3) = false then (([], 0, 0), 2) else (r, 0)
def BetV (w : World) (x : (List Int × Int × Int) × Int) (e : Ending) (w' : World) : Prop :=
  ∃ v, e = .returned (.tuple #[.agg #[v, .int .i64 x.1.2.1, .int .i64 x.1.2.2], .int .i64 x.2]) ∧ IntsR w' (fun k => w.heap.size ≤ k ∧ k < w'.heap.size) x.1.1 v ∧ Below w.heap.size w w'
theorem BetRes.v {w w' : World} {b1 b2 b3 : Bool} {r : List Int × Int × Int} {e : Ending} (h : BetRes w b1 b2 b3 r e w') : BetV w (betV b1 b2 b3 r) e w' := by
  obtain ⟨hb, (⟨rfl, rfl⟩ | ⟨rfl, h2, rfl⟩ | ⟨rfl, rfl, rfl, v, rfl, hi⟩)⟩ := h
  · exact ⟨_, rfl, SliceR.nil_ 0 (by simp) none, hb⟩
  · unfold betV; rw [if_neg (by simp), if_pos h2]; exact ⟨_, rfl, SliceR.nil_ 0 (by simp) none, hb⟩
  · exact ⟨v, rfl, hi, hb⟩
end Go.Proofs.YtmahiejfniaahaaGreatDoor
set_option linter.unusedVariables false
set_option linter.unusedSimpArgs false
set_option maxRecDepth 100000
namespace Go.Proofs.YtmahiejfniaahaaGreatDoor
open Go.RowKit
theorem trees2 (W : World) (t1 t2 : Tree) (a0 a1 a2 a3 b0 b1 b2 b3 : Value) (h1 : treeE.R W (Lt W.heap.size) t1 [a0, a1, a2, a3]) (h2 : treeE.R W (Lt W.heap.size) t2 [b0, b1, b2, b3]) (g : Nat) (hg : g = W.heap.size) (e : TypeId) (W' : World) (hW' : W' = W.alloc (.cells #[a0, a1, a2, a3, b0, b1, b2, b3] e)) :
    SliceR treeE W' (Lt W'.heap.size) [t1, t2] (.slice (some ⟨g, 0, none⟩) 2 2) := by
  subst hW'
  have hL : ListR treeE W (Lt W.heap.size) [t1, t2] [a0, a1, a2, a3, b0, b1, b2, b3] := ListR.append (xs := [t1]) (ys := [t2]) (cs := [a0, a1, a2, a3]) (ds := [b0, b1, b2, b3]) (ListR.single (E := treeE) h1) (ListR.single (E := treeE) h2)
  exact trees_lit W [t1, t2] #[a0, a1, a2, a3, b0, b1, b2, b3] _ rfl hL (by simp [maxLen]) 2 g rfl hg e
end Go.Proofs.YtmahiejfniaahaaGreatDoor
