/- Texts put together. -/
import Derived.Test.YthpngeboknmllaaQ9bda6e984b
import Derived.Deep.RegionHeld3
set_option linter.unusedVariables false
set_option linter.unusedSimpArgs false
namespace Go.Proofs.Ythpngeboknmllaa
open Go.RowKit
def delimsB:ByteArray:=⟨#[40,41,91,93,123,125,124,60,62,47,46]⟩
def textS (k:Int) (s:ByteArray):Bool :=
 if k = 2 then symbolS s else if k = 3 then numberS s else if k = 4 then (decide (s.size≤200) && printableS (bytes s))
 else if k = 10 then inS accentsL s
 else if k = 11 then (decide (s.size = 2) && hasS (bytes delimsB) ((bytes s).getD 0 0) && hasS (bytes delimsB) ((bytes s).getD 1 0))
 else s.toList.isEmpty
theorem bytes_getD (s:ByteArray) (k:Nat) (h:k < s.size):(bytes s).getD k 0 = (s[k].toNat:Int):=by
 rw [List.getD_eq_getElem?_getD,List.getElem?_eq_getElem (by rw [bytes_len];exact h),bytes_get s k h];rfl
theorem below_new (w:World) (o:Obj):Below w.heap.size w (w.alloc o):=(Below.refl _ _).alloc (Nat.le_refl _) _
set_option maxHeartbeats 1000000 in
theorem text_any (k c : Int) (s : ByteArray) (A : Option Addr) (n cap : Nat) (w : World) (hs : s.size ≤ maxLen) :
    Calls Try.prog 55 #[.agg #[.int .i64 k, .string s, .int .i64 c, .slice A n cap]] w fun e w' => e = .returned (.bool (textS k s)) ∧ Below w.heap.size w w' := by
  have HB : Hid (Below w.heap.size w (w.alloc (Obj.cells #[.int .i64 k, .string s, .int .i64 c, .slice A n cap] 31))) := below_new _ _
  have q0 : (w.alloc (Obj.cells #[.int .i64 k, .string s, .int .i64 c, .slice A n cap] 31)).cell? ⟨w.heap.size, 0, none⟩ = some (.int .i64 k) := by rw [World.cell?_alloc_new]; rfl
  clear q0
  by_cases k2 : k = 2
  · subst k2
    have HS := hid (symbol_any s (w.alloc (Obj.cells #[.int .i64 2, .string s, .int .i64 c, .slice A n cap] 31)) hs)
    have HF : Hid (textS 2 s = symbolS s) := rfl
    go_enter Try.func55, Try.ntmps55
    go_wp2_with fail
    with_reducible refine HS.out.mono ?_
    rintro e w1 ⟨rfl, hb1⟩
    have HB1 := hid (HB.out.trans (hb1.mono HB.out.size))
    clear hb1
    go_wp2_with fail
    go_ret
    exact ⟨by rw [HF.out]; rfl, HB1.out⟩
  have e2 : (k == 2) = false := by simpa using k2
  by_cases k3 : k = 3
  · subst k3
    clear e2 k2
    have HS := hid (number_q s (w.alloc (Obj.cells #[.int .i64 3, .string s, .int .i64 c, .slice A n cap] 31)) hs)
    have HF : Hid (textS 3 s = numberS s) := rfl
    go_enter Try.func55, Try.ntmps55
    go_wp2_with fail
    with_reducible refine HS.out.mono ?_
    rintro e w1 ⟨rfl, rfl⟩
    go_wp2_with fail
    go_ret
    exact ⟨by rw [HF.out]; rfl, HB.out⟩
  have e3 : (k == 3) = false := by simpa using k3
  by_cases k4 : k = 4
  · subst k4
    clear e2 k2 e3 k3
    have HS := hid (printable_q s (w.alloc (Obj.cells #[.int .i64 4, .string s, .int .i64 c, .slice A n cap] 31)) hs)
    have HF : Hid (textS 4 s = (decide (s.size ≤ 200) && printableS (bytes s))) := rfl
    by_cases h1 : s.size ≤ 200
    · have HG : Hid (textS 4 s = printableS (bytes s)) := by show _ = _; rw [HF.out, decide_eq_true h1]; rfl
      go_enter Try.func55, Try.ntmps55
      go_wp2_with fail
      with_reducible refine HS.out.mono ?_
      rintro e w1 ⟨rfl, rfl⟩
      go_wp2_with fail
      go_ret
      exact ⟨by rw [HG.out]; rfl, HB.out⟩
    · have HG : Hid (textS 4 s = false) := by show _ = _; rw [HF.out, decide_eq_false h1]; rfl
      have d1 : decide ((s.size : Int) ≤ 200) = false := decide_eq_false (by omega)
      go_enter Try.func55, Try.ntmps55
      go_wp2_with fail
      go_ret
      exact ⟨by rw [HG.out]; rfl, HB.out⟩
  have e4 : (k == 4) = false := by simpa using k4
  by_cases k10 : k = 10
  · subst k10
    clear e2 k2 e3 k3 e4 k4
    have HF : Hid (textS 10 s = inS accentsL s) := rfl
    obtain ⟨W, hW⟩ : ∃ W, W = w.alloc (Obj.cells #[.int .i64 10, .string s, .int .i64 c, .slice A n cap] 31) := ⟨_, rfl⟩
    have HA : Hid (∀ W, Calls Try.prog 37 #[] W (StrsPost W accentsL)) := fun W => accents_any W
    have HI : Hid (∀ (W : World) (v : Value), SliceR strE W (Lt W.heap.size) accentsL v → Calls Try.prog 35 #[v, .string s] W fun e w' => e = .returned (.bool (inS accentsL s)) ∧ W = w') := fun W v hv => in_q accentsL s W v _ hv
    go_enter Try.func55, Try.ntmps55
    go_wp2_with fail
    have c1 : W.cell? ⟨w.heap.size, 1, none⟩ = some (.string s) := by rw [hW, World.cell?_alloc_new]; rfl
    have z1 : w.heap.size < W.heap.size := by rw [hW]; simp
    have HB1 : Hid (Below w.heap.size w W) := by rw [hW]; exact HB.out
    rw [← hW]
    clear hW HB
    go_region_held3 (fun w' => w'.cell? ⟨w.heap.size, 1, none⟩ = some (.string s)) (go_keep) (first
      | (go_at_call 37; refine (HA.out _).mono ?_; rintro e w1 ⟨A1, c1', rfl, hs1, hb1⟩; have H1 := hid hs1; have hb1' : Below W.heap.size W w1 := ⟨hb1.os, hb1.tape, hb1.output, hb1.size, hb1.block⟩; have HB2 := hid (HB1.out.trans (hb1'.mono HB1.out.size)); have k1 : w1.cell? ⟨w.heap.size, 1, none⟩ = some (.string s) := ((bcell hb1').1 _ _ z1).trans c1; clear hs1 hb1 hb1')
      | (go_at_call 35; refine (HI.out _ _ H1.out).mono ?_; rintro e w2 ⟨rfl, rfl⟩))
    go_wp2_with fail
    go_ret
    exact ⟨by rw [HF.out]; rfl, HB2.out⟩
  have e10 : (k == 10) = false := by simpa using k10
  by_cases k11 : k = 11
  · subst k11
    clear e2 k2 e3 k3 e4 k4 e10 k10
    have HF : Hid (textS 11 s = (decide (s.size = 2) && hasS (bytes delimsB) ((bytes s).getD 0 0) && hasS (bytes delimsB) ((bytes s).getD 1 0))) := rfl
    by_cases h2 : s.size = 2
    · have l0 : 0 < s.size := by omega
      have l1 : 1 < s.size := by omega
      have HG : Hid (textS 11 s = (hasS (bytes delimsB) (s[0].toNat : Int) && hasS (bytes delimsB) (s[1].toNat : Int))) := by show _ = _; rw [HF.out, decide_eq_true h2, bytes_getD s 0 l0, bytes_getD s 1 l1]; rfl
      have C0 : Hid (∀ W, Calls Try.prog 44 #[.string delimsB, .int .u8 (s[0].toNat : Int)] W fun e w' => e = .returned (.bool (hasS (bytes delimsB) (s[0].toNat : Int))) ∧ W = w') := fun W => has_q delimsB _ W (by decide)
      have C1 : Hid (∀ W, Calls Try.prog 44 #[.string delimsB, .int .u8 (s[1].toNat : Int)] W fun e w' => e = .returned (.bool (hasS (bytes delimsB) (s[1].toNat : Int))) ∧ W = w') := fun W => has_q delimsB _ W (by decide)
      generalize hasS (bytes delimsB) (s[0].toNat : Int) = b0 at *
      generalize hasS (bytes delimsB) (s[1].toNat : Int) = b1 at *
      unfold delimsB at C0 C1
      have d1 : ((s.size : Int) == 2) = true := by simp; omega
      have i0 : (0 : Int) < (s.size : Int) := by omega
      have i1 : (1 : Int) < (s.size : Int) := by omega
      clear h2
      cases b0 <;> cases b1
      all_goals
        go_enter Try.func55, Try.ntmps55
        go_wp2_with fail
        refine (C0.out _).mono ?_
        rintro e w1 ⟨rfl, rfl⟩
        go_wp2_with fail
        try (refine (C1.out _).mono ?_; rintro e w1 ⟨rfl, rfl⟩; go_wp2_with fail)
        go_ret
        exact ⟨by rw [HG.out]; rfl, HB.out⟩
    · have HG : Hid (textS 11 s = false) := by show _ = _; rw [HF.out, decide_eq_false h2]; rfl
      have d1 : ((s.size : Int) == 2) = false := by simp; omega
      clear h2
      go_enter Try.func55, Try.ntmps55
      go_wp2_with fail
      go_ret
      exact ⟨by rw [HG.out]; rfl, HB.out⟩
  have e11 : (k == 11) = false := by simpa using k11
  have HF : Hid (textS k s = s.toList.isEmpty) := by show _ = _; unfold textS; rw [if_neg k2, if_neg k3, if_neg k4, if_neg k10, if_neg k11]
  clear k2 k3 k4 k10 k11
  cases hq : s.toList.isEmpty with
  | true =>
    rw [hq] at HF
    go_enter Try.func55, Try.ntmps55
    go_wp2_with fail
    go_ret
    exact ⟨by rw [HF.out]; rfl, HB.out⟩
  | false =>
    rw [hq] at HF
    go_enter Try.func55, Try.ntmps55
    go_wp2_with fail
    go_ret
    exact ⟨by rw [HF.out]; rfl, HB.out⟩
end Go.Proofs.Ythpngeboknmllaa
