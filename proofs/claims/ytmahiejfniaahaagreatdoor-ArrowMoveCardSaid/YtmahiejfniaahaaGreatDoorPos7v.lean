/- ref10.At, Step. -/
import Derived.Test.YtmahiejfniaahaaGreatDoorGD
import Derived.Test.YtmahiejfniaahaaGreatDoorGJ
set_option linter.unusedVariables false
set_option linter.unusedSimpArgs false
set_option maxRecDepth 100000
namespace Go.Proofs.YtmahiejfniaahaaGreatDoor
open Go.RowKit
theorem row_at {w w' : World} {L : List (List Int)} {A : Option Addr} {c B : Nat} (h : OwnRows w' B L (.slice A L.length c)) {k : Nat} (hk : k < L.length) :
    ∃ g o A1 c1, A = some ⟨g, o, none⟩ ∧ w'.cell? ⟨g, o + k, none⟩ = some (.slice A1 L[k].length c1) ∧ IntsR w' (fun i => B ≤ i ∧ i < w'.heap.size) L[k] (.slice A1 L[k].length c1) := by
  obtain ⟨_, _, rs, hq, _, _, hrd, hls⟩ := h.rows
  cases hq
  obtain ⟨g, o, A3, c3, rs3, rfl, hg, q0, h5, h6, h7, h8⟩ := rows_at hrd hls hk
  exact ⟨g, o, A3, c3, rfl, q0, _, _, rs3, rfl, h5, h6, h7, h8⟩
set_option maxHeartbeats 2000000 in
theorem rAt_any (t : Tree) (i : Int) (A : Option Addr) (cap : Nat) (w : World) (hv : SliceR treeE w (Lt w.heap.size) t.kids (.slice A t.kids.length cap)) (htx : t.text.size ≤ maxLen) (hct : countS t ≤ 900000) :
    Calls Tryz.prog 66 #[.agg #[.int .i64 t.kind, .string t.text, .int .i64 t.cols, .slice A t.kids.length cap], .int .i64 i] w (PosRes w (atR t i)) := by
  have HB0 : Hid (Below w.heap.size w (w.alloc (Obj.cells #[.int .i64 t.kind, .string t.text, .int .i64 t.cols, .slice A t.kids.length cap] 24))) := below_allocR _ _
  have C1 := hid (rAll_any t A cap _ (hv.below HB0.out HB0.out.size) htx hct)
  have hL := allS_le t hct
  have HR0 : Hid (validS t = false → atR t i = ([], 1)) := fun h => by simp [atR, h]
  have HR1 : Hid (validS t = true → atR t i = atL (allS [] t) i) := fun h => by simp [atR, h]
  have HAT : Hid (∀ (k : Nat) (hk : k < (allS [] t).length), i = (k : Int) → atL (allS [] t) i = ((allS [] t)[k], 0)) := fun k hk h => by rw [atL_nat _ k h, List.getElem?_eq_getElem hk]
  have HNO : Hid ((i < 0 ∨ ((allS [] t).length : Int) ≤ i) → atL (allS [] t) i = ([], 2)) := fun h => by
    by_cases h0 : 0 ≤ i
    · rw [atL, if_pos h0, List.getElem?_eq_none (by omega)]
    · rw [atL, if_neg h0]
  generalize atR t i = r at *
  generalize allS [] t = L at *
  generalize validS t = b at *
  obtain ⟨tk, tx, tc, ts⟩ := t
  simp only [Tree.kind, Tree.text, Tree.cols, Tree.kids] at *
  clear hv htx hct
  by_cases hi0 : i < 0
  · have d0 : decide (i < 0) = true := by simpa using hi0
    have HF := hid (HNO.out (.inl hi0))
    clear hi0
    go_enter Tryz.func66, Tryz.ntmps66
    go_wp2_with fail
    refine C1.out.mono ?_
    rintro e w1 ⟨hb1, (⟨rfl, rfl⟩ | ⟨rfl, v, rfl, hr⟩)⟩
    · have HB1 := hid (bl_call HB0.out hb1)
      clear hb1
      go_wp2_with fail
      go_ret2
      rw [HR0.out (by trivial)]
      exact ⟨HB1.out, _, rfl, SliceR.nil_ 0 (by simp [maxLen]) none⟩
    · have HB1 := hid (bl_call HB0.out hb1)
      obtain ⟨A2, c2, rfl⟩ := hr.rows.form
      clear hb1 hr
      go_wp2_with fail
      go_ret2
      rw [HR1.out (by trivial), HF.out]
      exact ⟨HB1.out, _, rfl, SliceR.nil_ 0 (by simp [maxLen]) none⟩
  · have d0 : decide (i < 0) = false := by simpa using hi0
    have i0 : (0 : Int) ≤ i := by omega
    rcases Nat.lt_or_ge i.toNat L.length with hlt | hge
    · have d1 : decide ((L.length : Int) ≤ i) = false := by simp; omega
      have i1 : i < (L.length : Int) := by omega
      obtain ⟨k, rfl⟩ : ∃ k : Nat, i = (k : Int) := ⟨i.toNat, by omega⟩
      rw [Int.toNat_natCast] at hlt
      have HF := hid (HAT.out k hlt rfl)
      clear hi0
      go_enter Tryz.func66, Tryz.ntmps66
      go_wp2_with fail
      refine C1.out.mono ?_
      rintro e w1 ⟨hb1, (⟨rfl, rfl⟩ | ⟨rfl, v, rfl, hr⟩)⟩
      · have HB1 := hid (bl_call HB0.out hb1)
        clear hb1
        go_wp2_with fail
        go_ret2
        rw [HR0.out (by trivial)]
        exact ⟨HB1.out, _, rfl, SliceR.nil_ 0 (by simp [maxLen]) none⟩
      · have HB1 := hid (bl_call HB0.out hb1)
        obtain ⟨A2, c2, rfl⟩ := hr.rows.form
        obtain ⟨g, o, A3, c3, rfl, q0, hq⟩ := row_at (w := w) hr hlt
        have HQ : Hid (IntsR w1 (fun i => w.heap.size ≤ i ∧ i < w1.heap.size) L[k] (.slice A3 L[k].length c3)) := hq.wide fun j hj => ⟨by have := HB0.out.size; omega, hj.2⟩
        clear hb1 hr hq
        go_wp2_with fail
        go_ret2
        rw [HR1.out (by trivial), HF.out]
        exact ⟨HB1.out, _, rfl, HQ.out⟩
    · have d1 : decide ((L.length : Int) ≤ i) = true := by simp; omega
      have HF := hid (HNO.out (.inr (by omega)))
      clear hi0 hge
      go_enter Tryz.func66, Tryz.ntmps66
      go_wp2_with fail
      refine C1.out.mono ?_
      rintro e w1 ⟨hb1, (⟨rfl, rfl⟩ | ⟨rfl, v, rfl, hr⟩)⟩
      · have HB1 := hid (bl_call HB0.out hb1)
        clear hb1
        go_wp2_with fail
        go_ret2
        rw [HR0.out (by trivial)]
        exact ⟨HB1.out, _, rfl, SliceR.nil_ 0 (by simp [maxLen]) none⟩
      · have HB1 := hid (bl_call HB0.out hb1)
        obtain ⟨A2, c2, rfl⟩ := hr.rows.form
        clear hb1 hr
        go_wp2_with fail
        go_ret2
        rw [HR1.out (by trivial), HF.out]
        exact ⟨HB1.out, _, rfl, SliceR.nil_ 0 (by simp [maxLen]) none⟩
end Go.Proofs.YtmahiejfniaahaaGreatDoor
