/- ref10.At, Step. -/
import Derived.Test.YtognlokeadlpbaaPosL2
import Derived.Test.YtognlokeadlpbaaSel2
set_option linter.unusedVariables false
set_option linter.unusedSimpArgs false
set_option maxRecDepth 100000
namespace Go.Proofs.Ytognlokeadlpbaa
open Go.RowKit

theorem ints_bl {B : Nat} {W W' : World} {xs : List Int} {v : Value} (h : IntsR W (fun k => B ≤ k ∧ k < W.heap.size) xs v) (hb : Below W.heap.size W W') : IntsR W' (fun k => B ≤ k ∧ k < W'.heap.size) xs v :=
  h.keep (fun q hq => hb.cell hq.2) (fun k hk => ⟨hk.1, Nat.lt_of_lt_of_le hk.2 hb.size⟩)
theorem ints_dn {S : Nat → Prop} {W : World} {xs : List Int} {v : Value} (h : IntsR W S xs v) (n : Nat) : IntsR (W.drewN n) S xs v := h.keep (fun _ _ => rfl) (fun _ h => h)
/-- A row of a list of rows that a call has made. -/
theorem row_at {w w' : World} {L : List (List Int)} {A : Option Addr} {c B : Nat} (h : OwnRows w' B L (.slice A L.length c)) {k : Nat} (hk : k < L.length) :
    ∃ g o A1 c1, A = some ⟨g, o, none⟩ ∧ w'.cell? ⟨g, o + k, none⟩ = some (.slice A1 L[k].length c1) ∧ IntsR w' (fun i => B ≤ i ∧ i < w'.heap.size) L[k] (.slice A1 L[k].length c1) := by
  obtain ⟨_, _, rs, hq, _, _, hrd, hls⟩ := h.rows
  cases hq
  obtain ⟨g, o, A3, c3, rs3, rfl, hg, q0, h5, h6, h7, h8⟩ := rows_at hrd hls hk
  exact ⟨g, o, A3, c3, rfl, q0, _, _, rs3, rfl, h5, h6, h7, h8⟩

set_option maxHeartbeats 2000000 in
theorem rAt_any (t : Tree) (i : Int) (A : Option Addr) (cap : Nat) (w : World) (hv : SliceR treeE w (Lt w.heap.size) t.kids (.slice A t.kids.length cap)) (htx : t.text.size ≤ maxLen) (hct : countS t ≤ 900000) :
    Calls Try.prog 49 #[.agg #[.int .i64 t.kind, .string t.text, .int .i64 t.cols, .slice A t.kids.length cap], .int .i64 i] w (PosRes w (atR t i)) := by
  have HB0 : Hid (Below w.heap.size w (w.alloc (Obj.cells #[.int .i64 t.kind, .string t.text, .int .i64 t.cols, .slice A t.kids.length cap] 24))) := below_allocR _ _
  have C1 := hid (rAll_any t A cap _ (hv.below HB0.out HB0.out.size) htx hct)
  have hL := allS_le t hct
  have HR0 : Hid (validS t = false → atR t i = ([], 1)) := fun h => by simp [atR, h]
  have HR1 : Hid (validS t = true → atR t i = atL (allS [] t) i) := fun h => by simp [atR, h]
  have HAT : Hid (∀ (k : Nat) (hk : k < (allS [] t).length), i = (k : Int) → atL (allS [] t) i = ((allS [] t)[k], 0)) := fun k hk h => by rw [atL_nat _ k h, List.getElem?_eq_getElem hk]
  have HNO : Hid ((i < 0 ∨ ((allS [] t).length : Int) ≤ i) → atL (allS [] t) i = ([], 2)) := fun h => by
    by_cases h0 : 0 ≤ i
    · rw [atL, if_pos h0, List.getElem?_eq_none (by omega)]
    · rw [atL, if_neg h0]
  generalize atR t i = r at *
  generalize allS [] t = L at *
  generalize validS t = b at *
  obtain ⟨tk, tx, tc, ts⟩ := t
  simp only [Tree.kind, Tree.text, Tree.cols, Tree.kids] at *
  clear hv htx hct
  by_cases hi0 : i < 0
  · have d0 : decide (i < 0) = true := by simpa using hi0
    have HF := hid (HNO.out (.inl hi0))
    clear hi0
    go_enter Try.func49, Try.ntmps49
    go_wp2_with fail
    refine C1.out.mono ?_
    rintro e w1 ⟨hb1, (⟨rfl, rfl⟩ | ⟨rfl, v, rfl, hr⟩)⟩
    · have HB1 := hid (bl_call HB0.out hb1)
      clear hb1
      go_wp2_with fail
      go_ret2
      rw [HR0.out (by trivial)]
      exact ⟨HB1.out, _, rfl, SliceR.nil_ 0 (by simp [maxLen]) none⟩
    · have HB1 := hid (bl_call HB0.out hb1)
      obtain ⟨A2, c2, rfl⟩ := hr.rows.form
      clear hb1 hr
      go_wp2_with fail
      go_ret2
      rw [HR1.out (by trivial), HF.out]
      exact ⟨HB1.out, _, rfl, SliceR.nil_ 0 (by simp [maxLen]) none⟩
  · have d0 : decide (i < 0) = false := by simpa using hi0
    have i0 : (0 : Int) ≤ i := by omega
    rcases Nat.lt_or_ge i.toNat L.length with hlt | hge
    · have d1 : decide ((L.length : Int) ≤ i) = false := by simp; omega
      have i1 : i < (L.length : Int) := by omega
      obtain ⟨k, rfl⟩ : ∃ k : Nat, i = (k : Int) := ⟨i.toNat, by omega⟩
      rw [Int.toNat_natCast] at hlt
      have HF := hid (HAT.out k hlt rfl)
      clear hi0
      go_enter Try.func49, Try.ntmps49
      go_wp2_with fail
      refine C1.out.mono ?_
      rintro e w1 ⟨hb1, (⟨rfl, rfl⟩ | ⟨rfl, v, rfl, hr⟩)⟩
      · have HB1 := hid (bl_call HB0.out hb1)
        clear hb1
        go_wp2_with fail
        go_ret2
        rw [HR0.out (by trivial)]
        exact ⟨HB1.out, _, rfl, SliceR.nil_ 0 (by simp [maxLen]) none⟩
      · have HB1 := hid (bl_call HB0.out hb1)
        obtain ⟨A2, c2, rfl⟩ := hr.rows.form
        obtain ⟨g, o, A3, c3, rfl, q0, hq⟩ := row_at (w := w) hr hlt
        have HQ : Hid (IntsR w1 (fun i => w.heap.size ≤ i ∧ i < w1.heap.size) L[k] (.slice A3 L[k].length c3)) := hq.wide fun j hj => ⟨by have := HB0.out.size; omega, hj.2⟩
        clear hb1 hr hq
        go_wp2_with fail
        go_ret2
        rw [HR1.out (by trivial), HF.out]
        exact ⟨HB1.out, _, rfl, HQ.out⟩
    · have d1 : decide ((L.length : Int) ≤ i) = true := by simp; omega
      have HF := hid (HNO.out (.inr (by omega)))
      clear hi0 hge
      go_enter Try.func49, Try.ntmps49
      go_wp2_with fail
      refine C1.out.mono ?_
      rintro e w1 ⟨hb1, (⟨rfl, rfl⟩ | ⟨rfl, v, rfl, hr⟩)⟩
      · have HB1 := hid (bl_call HB0.out hb1)
        clear hb1
        go_wp2_with fail
        go_ret2
        rw [HR0.out (by trivial)]
        exact ⟨HB1.out, _, rfl, SliceR.nil_ 0 (by simp [maxLen]) none⟩
      · have HB1 := hid (bl_call HB0.out hb1)
        obtain ⟨A2, c2, rfl⟩ := hr.rows.form
        clear hb1 hr
        go_wp2_with fail
        go_ret2
        rw [HR1.out (by trivial), HF.out]
        exact ⟨HB1.out, _, rfl, SliceR.nil_ 0 (by simp [maxLen]) none⟩

set_option maxHeartbeats 2000000 in
theorem rStep_any (t : Tree) (p : List Int) (d : Int) (hd : d = 1 ∨ d = -1) (A : Option Addr) (cap : Nat) (b : Value) (w : World) (hv : SliceR treeE w (Lt w.heap.size) t.kids (.slice A t.kids.length cap)) (htx : t.text.size ≤ maxLen) (hct : countS t ≤ 900000) (hp : IntsR w (Lt w.heap.size) p b) :
    Calls Try.prog 43 #[.agg #[.int .i64 t.kind, .string t.text, .int .i64 t.cols, .slice A t.kids.length cap], b, .int .i64 d] w (PosRes w (stepR t p d)) := by
  have HB0 : Hid (Below w.heap.size w (w.alloc (Obj.cells #[.int .i64 t.kind, .string t.text, .int .i64 t.cols, .slice A t.kids.length cap] 24))) := below_allocR _ _
  have C1 := hid (rIndex_any t p A cap b _ (hv.below HB0.out HB0.out.size) htx hct (hp.below HB0.out HB0.out.size))
  have C2 : Hid (∀ j W, Below w.heap.size w W → validS t = true → Calls Try.prog 49 #[.agg #[.int .i64 t.kind, .string t.text, .int .i64 t.cols, .slice A t.kids.length cap], .int .i64 j] W (PosRes W (atL (allS [] t) j))) := fun j W h hvv => by
    have := rAt_any t j A cap W (hv.below h h.size) htx hct
    rwa [atR, hvv, if_pos rfl] at this
  have KB : Hid (∀ W, Below (w.alloc (Obj.cells #[.int .i64 t.kind, .string t.text, .int .i64 t.cols, .slice A t.kids.length cap] 24)).heap.size (w.alloc (Obj.cells #[.int .i64 t.kind, .string t.text, .int .i64 t.cols, .slice A t.kids.length cap] 24)) W → NBox W w.heap.size t.kind t.cols t.text (.slice A t.kids.length cap)) :=
    fun W hW => (NBox.new w t.kind t.cols t.text _).below hW (by simp)
  have hL := allS_le t hct
  have HR0 : Hid (validS t = false → stepR t p d = ([], 1)) := fun h => by simp [stepR, h]
  have HR1 : Hid (validS t = true → idxS (allS [] t) p = none → stepR t p d = ([], 2)) := fun h h1 => by simp [stepR, stepO, h, h1]
  have HR2 : Hid (∀ i, validS t = true → idxS (allS [] t) p = some i → stepR t p d = if (atL (allS [] t) ((i : Int) + d)).2 = 0 then ((atL (allS [] t) ((i : Int) + d)).1, 0) else ([], 8)) := fun i h h1 => by simp [stepR, stepO, h, h1]
  obtain ⟨A', cap', rfl⟩ := hp.form
  generalize stepR t p d = r at *
  generalize allS [] t = L at *
  generalize validS t = b at *
  obtain ⟨tk, tx, tc, ts⟩ := t
  simp only [Tree.kind, Tree.text, Tree.cols, Tree.kids] at *
  clear hv htx hct hp
  have hd1 : -1 ≤ d := by omega
  have hd2 : d ≤ 1 := by omega
  clear hd
  go_enter Try.func43, Try.ntmps43
  go_wp2_with fail
  refine C1.out.mono ?_
  rintro e w1 ⟨hb1, (⟨rfl, rfl⟩ | ⟨rfl, (⟨h1, rfl⟩ | ⟨i, h0, h1, rfl⟩)⟩)⟩
  · have HB1 := hid (bl_call HB0.out hb1)
    clear hb1
    go_wp2_with fail
    go_ret2
    rw [HR0.out (by trivial)]
    exact ⟨HB1.out, _, rfl, SliceR.nil_ 0 (by simp [maxLen]) none⟩
  · have HB1 := hid (bl_call HB0.out hb1)
    have HF := hid (HR1.out (by trivial) h1)
    clear hb1 h1
    go_wp2_with fail
    go_ret2
    rw [HF.out]
    exact ⟨HB1.out, _, rfl, SliceR.nil_ 0 (by simp [maxLen]) none⟩
  · have HB1 := hid (bl_call HB0.out hb1)
    have HF := hid (HR2.out i rfl h1)
    obtain ⟨q0, q1, q2, q3⟩ := KB.out w1 hb1
    have hi1 : (i : Int) ≤ 2000000 := by omega
    have hi2 : (0 : Int) ≤ (i : Int) := by omega
    have HC := hid (C2.out ((i : Int) + d) w1 HB1.out rfl)
    clear hb1 h1 C2 KB HR0 HR1 HR2
    obtain ⟨m, er, hm⟩ : ∃ m er, atL L ((i : Int) + d) = (m, er) := ⟨_, _, rfl⟩
    rw [hm] at HC HF
    dsimp only at HF
    by_cases her : er = 0
    · subst her
      have HF2 : Hid (r = (m, 0)) := by show _ = _; rw [HF.out, if_pos rfl]
      clear HF hm
      go_wp2_with fail
      refine HC.out.mono ?_
      rintro e w2 ⟨hb2, v, rfl, hi⟩
      obtain ⟨A2, c2, rfl⟩ := hi.form
      have HB2 := hid (bl_call HB1.out hb2)
      have HI : Hid (IntsR w2 (fun i => w.heap.size ≤ i ∧ i < w2.heap.size) m (.slice A2 m.length c2)) := SliceR.wide hi fun j hj => ⟨by have := HB1.out.size; omega, hj.2⟩
      clear hb2 hi
      go_wp2_with fail
      go_ret2
      rw [HF2.out]
      exact ⟨HB2.out, _, rfl, HI.out⟩
    · have HF2 : Hid (r = ([], 8)) := by show _ = _; rw [HF.out, if_neg her]
      have d1 : (er != 0) = true := by simpa using her
      clear HF hm her
      go_wp2_with fail
      refine HC.out.mono ?_
      rintro e w2 ⟨hb2, v, rfl, hi⟩
      obtain ⟨A2, c2, rfl⟩ := SliceR.form hi
      have HB2 := hid (bl_call HB1.out hb2)
      clear hb2 hi
      go_wp2_with fail
      go_ret2
      rw [HF2.out]
      exact ⟨HB2.out, _, rfl, SliceR.nil_ 0 (by simp [maxLen]) none⟩
end Go.Proofs.Ytognlokeadlpbaa
