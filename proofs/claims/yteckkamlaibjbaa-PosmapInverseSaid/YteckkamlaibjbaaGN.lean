/- Texts put together: InvK, Kept, PInv. -/
import Derived.Test.YteckkamlaibjbaaGE
import Derived.Test.YteckkamlaibjbaaGF
import Derived.Test.YteckkamlaibjbaaGM
import Derived.Test.YteckkamlaibjbaaGC
import Derived.Test.YteckkamlaibjbaaMapv
import Derived.Test.YteckkamlaibjbaaGJ
/- Plain: the image under an operation and then under its inverse, with the stated exceptions. -/
set_option linter.unusedVariables false
set_option linter.unusedSimpArgs false
namespace Go.Proofs.Yteckkamlaibjbaa
open Go.RowKit

def atS (op : OpD) (pos : List Int) (o : Int) : Bool := decide (cmpS pos (op.row ++ [o]) = 0)
def endsK (op : OpD) (pos : List Int) : Bool :=
  decide (pos.length = op.row.length + 3) && begS pos op.row && decide (pos.getD op.row.length 0 = op.at_) && decide (pos.getD (op.row.length + 1) 0 = op.slot) && (decide (pos.getD (op.row.length + 2) 0 = 0) || decide (pos.getD (op.row.length + 2) 0 = op.n))
def keptS (op : OpD) (pos : List Int) : Bool :=
  if op.kind = 2 then !lostS op pos && !atS op pos op.at_ && !atS op pos (op.at_ + op.nodes.length)
  else if op.kind = 4 then !lostS op pos && !endsK op pos && !(decide (op.n = 0) && (atS op pos op.at_ || atS op pos (op.at_ + 1)))
  else true

theorem atS_row (op : OpD) (q : List Int) (o : Int) : atS op (op.row ++ q) o = decide (q = [o]) := by
  unfold atS
  rw [cmpS_append]
  simp only [cmpS_zero]
theorem endsK_row (op : OpD) (i s y : Int) : endsK op (op.row ++ [i, s, y]) = (decide (i = op.at_) && decide (s = op.slot) && (decide (y = 0) || decide (y = op.n))) := by
  unfold endsK
  have h1 : begS (op.row ++ [i, s, y]) op.row = true := begS_iff.2 ⟨_, rfl⟩
  rw [h1]
  simp [List.getD_eq_getElem?_getD, List.getElem?_append_right]

theorem kept_q {t m : Tree} {op : OpD} (h : applyS t op = (m, 0)) (q : List Int) (hq : (∃ o, q = [o]) ∨ ∃ i s y r, q = i :: s :: y :: r) (hp : posIn t (op.row ++ q) = true) (hk : keptS op (op.row ++ q) = true) : keptQ op q := by
  obtain ⟨hv, hvm, hf, hfm, l', a, rfl, hd⟩ := apply_ok h
  have hin : posIn (rowT (findS t op.row).1.kids) q = true := by
    rw [posIn_find _ _ _ hf] at hp
    rw [← posIn_kids (findS t op.row).1 (rowT (findS t op.row).1.kids) rfl]
    exact hp
  have hkid := inKid_of hd q hin
  have hodd := posIn_odd _ _ hin
  unfold keptS at hk
  rw [lost_eq] at hk
  rcases hq with ⟨o, rfl⟩ | ⟨i, s, y, r, rfl⟩
  · have hw : withinS (op.row ++ [o]) op.row = true := within_iff.2 (by simp)
    refine ⟨fun h2 => ?_, fun h4 hn => ?_⟩
    · rw [if_pos h2] at hk
      unfold refLostS at hk
      rw [hw] at hk
      simp [h2, atS_row, List.getD_eq_getElem?_getD, List.getElem?_append_right] at hk
      omega
    · rw [if_neg (by omega), if_pos h4] at hk
      simp [hn, atS_row] at hk
      exact hk.2
  · have hw : withinS (op.row ++ i :: s :: y :: r) op.row = true := within_iff.2 (by simp)
    refine ⟨fun h2 => ?_, fun h4 hi => ?_⟩
    · rw [if_pos h2] at hk
      unfold refLostS at hk
      rw [hw] at hk
      simp [h2, atS_row, List.getD_eq_getElem?_getD, List.getElem?_append_right] at hk
      omega
    · rw [if_neg (by omega), if_pos h4] at hk
      simp only [Bool.and_eq_true] at hk
      have hl := hk.1.1
      have he := hk.1.2
      unfold refLostS at hl
      rw [hw] at hl
      have hs : s = op.slot := by simpa [h4, hi, List.getD_eq_getElem?_getD, List.getElem?_append_right] using hl
      obtain ⟨b1, b2, b3⟩ := hkid h4 hi hs
      refine ⟨hs, b1, b2, b3, fun hr => ?_, fun z hz => ?_⟩
      · subst hr
        rw [endsK_row] at he
        simpa [hi, hs] using he
      · subst hz
        simp at hodd

theorem inv_plain {t m : Tree} {op : OpD} (h : applyS t op = (m, 0)) (pos : List Int) (hp : posIn t pos = true) (hk : keptS op pos = true) (x0 x1 : Bool) : mapS (invS op) (mapS op pos x0) x1 = pos := by
  rw [map_eq, map_eq]
  cases hw : withinS pos op.row with
  | false => rw [map_out hw, map_out (op := invS op) hw]
  | true =>
    obtain ⟨q, rfl, hq⟩ := within_split hw
    have hkq := kept_q h q hq hp hk
    obtain ⟨_, _, _, _, l', a, _, hd⟩ := apply_ok h
    rw [map_suf]
    show refMapS (invS op) ((invS op).row ++ _) x1 = (invS op).row ++ q
    rw [map_suf]
    congr 1
    rcases hq with ⟨o, rfl⟩ | ⟨i, s, y, r, rfl⟩
    · exact inv_flat op o x0 x1 hd.n hd.K hkq
    · exact inv_deep op i s y r x1 hd.n hd.K hkq
end Go.Proofs.Yteckkamlaibjbaa
/- law13's kept. Written by wip/geninv.py. -/
set_option linter.unusedVariables false
set_option linter.unusedSimpArgs false
set_option maxRecDepth 100000
namespace Go.Proofs.Yteckkamlaibjbaa
open Go.RowKit

theorem ret_b {a b : Bool} (h : a = b) : Ending.returned (.bool a) = .returned (.bool b) := by rw [h]
set_option maxHeartbeats 16000000 in
theorem kept_any (op : OpD) (pos : List Int) (Ar An Ap : Option Addr) (cr cn cp : Nat) (w : World) (hok : op.Ok) (hr : IntsR w (Lt w.heap.size) op.row (.slice Ar op.row.length cr)) (hpos : IntsR w (Lt w.heap.size) pos (.slice Ap pos.length cp)) (hpl : pos.length ≤ 100000) (hpb : ∀ x ∈ pos, Bd 1152921504606846976 x) :
    Calls Try.prog 17 #[.agg (opC op (.slice Ar op.row.length cr) (.slice An op.nodes.length cn)), .slice Ap pos.length cp] w fun e w' => e = .returned (.bool (keptS op pos)) ∧ Below w.heap.size w w' := by
  have hrl := hok.row
  have hnl := hok.nodes
  have hat : -1099511627776 ≤ op.at_ ∧ op.at_ ≤ 1099511627776 := hok.at_
  have HLOST : Hid (∀ W, Below w.heap.size w W → Calls Try.prog 25 #[.agg (opC op (.slice Ar op.row.length cr) (.slice An op.nodes.length cn)), .slice Ap pos.length cp] W fun e w' => e = .returned (.bool (lostS op pos)) ∧ Below W.heap.size W w') := fun W hW => by
    rw [lost_eq]
    exact reflost_any op pos Ar An Ap cr cn cp W hok (hr.below hW hW.size) (hpos.below hW hW.size) (by omega) hpb
  have HBEG : Hid (∀ W, Below w.heap.size w W → Calls Try.prog 26 #[.slice Ap pos.length cp, .slice Ar op.row.length cr] W fun e w' => e = .returned (.bool (begS pos op.row)) ∧ ∃ n, w' = W.drewN n) := fun W hW => begins_any pos op.row Ap Ar cp cr W _ _ (hpos.below hW hW.size) (hr.below hW hW.size)
  generalize hW0 : (w.alloc (Obj.cells (opC op (.slice Ar op.row.length cr) (.slice An op.nodes.length cn)) 27)).alloc (Obj.cells #[.slice Ap pos.length cp] 25) = W0
  have hz0 : W0.heap.size = w.heap.size + 1 + 1 := by rw [← hW0]; simp
  have hB0 : Below w.heap.size w W0 := by rw [← hW0]; exact blAlloc (blA _ _) _
  have KB : Hid (∀ W, Below W0.heap.size W0 W → OpBox W w.heap.size op (.slice Ar op.row.length cr) (.slice An op.nodes.length cn) ∧ W.cell? ⟨w.heap.size + 1, 0, none⟩ = some (.slice Ap pos.length cp) ∧ Below w.heap.size w W) := fun W hW => by
    have hbP : OpBox W0 w.heap.size op (.slice Ar op.row.length cr) (.slice An op.nodes.length cn) := by
      rw [← hW0]
      exact (OpBox.new w op (.slice Ar op.row.length cr) (.slice An op.nodes.length cn) 27).below (blA _ _) (by simp)
    have hbQ : W0.cell? ⟨w.heap.size + 1, 0, none⟩ = some (.slice Ap pos.length cp) := by
      rw [← hW0]
      simp
    exact ⟨hbP.below hW (by omega), (hW.cell (p := ⟨w.heap.size + 1, 0, none⟩) (by show w.heap.size + 1 < W0.heap.size; omega)).trans hbQ, hB0.trans (hW.mono hB0.size)⟩
  have HAT : Hid (∀ W x, Below W0.heap.size W0 W → In64 x → Calls Try.prog 42 #[.int .i64 x, .pointer (some ⟨w.heap.size + 1, 0, none⟩), .pointer (some ⟨w.heap.size, 0, none⟩)] W fun e w' => e = .returned (.bool (atS op pos x)) ∧ Below W.heap.size W w') := fun W x hW hx => by
    obtain ⟨⟨m0, m1, m2, m3, m4, m5, m6, m7⟩, p0, hbw⟩ := KB.out W hW
    exact keptAt_any op.row pos x (w.heap.size + 1) w.heap.size Ap Ar cp cr W p0 m1 (hpos.below hbw hbw.size) (hr.below hbw hbw.size) (by omega) hx
  have HA1 : Hid (∀ W, Below W0.heap.size W0 W → Calls Try.prog 42 #[.int .i64 op.at_, .pointer (some ⟨w.heap.size + 1, 0, none⟩), .pointer (some ⟨w.heap.size, 0, none⟩)] W fun e w' => e = .returned (.bool (atS op pos op.at_)) ∧ Below W.heap.size W w') := fun W hW => HAT.out W _ hW (by unfold In64; omega)
  have HA2 : Hid (∀ W, Below W0.heap.size W0 W → Calls Try.prog 42 #[.int .i64 (op.at_ + op.nodes.length), .pointer (some ⟨w.heap.size + 1, 0, none⟩), .pointer (some ⟨w.heap.size, 0, none⟩)] W fun e w' => e = .returned (.bool (atS op pos (op.at_ + op.nodes.length))) ∧ Below W.heap.size W w') := fun W hW => HAT.out W _ hW (by unfold In64; omega)
  have HA3 : Hid (∀ W, Below W0.heap.size W0 W → Calls Try.prog 42 #[.int .i64 (op.at_ + 1), .pointer (some ⟨w.heap.size + 1, 0, none⟩), .pointer (some ⟨w.heap.size, 0, none⟩)] W fun e w' => e = .returned (.bool (atS op pos (op.at_ + 1))) ∧ Below W.heap.size W w') := fun W hW => HAT.out W _ hW (by unfold In64; omega)
  have HR : Hid (keptS op pos = if op.kind = 2 then !lostS op pos && !atS op pos op.at_ && !atS op pos (op.at_ + op.nodes.length) else if op.kind = 4 then !lostS op pos && !endsK op pos && !(decide (op.n = 0) && (atS op pos op.at_ || atS op pos (op.at_ + 1))) else true) := rfl
  have HEN : Hid (endsK op pos = (decide (pos.length = op.row.length + 3) && begS pos op.row && decide (pos.getD op.row.length 0 = op.at_) && decide (pos.getD (op.row.length + 1) 0 = op.slot) && (decide (pos.getD (op.row.length + 2) 0 = 0) || decide (pos.getD (op.row.length + 2) 0 = op.n)))) := rfl
  have HCL : Hid (pos.length = op.row.length + 3 → ∃ g o, Ap = some ⟨g, o, none⟩ ∧ W0.cell? ⟨g, o + op.row.length, none⟩ = some (.int .i64 (pos.getD op.row.length 0)) ∧ W0.cell? ⟨g, o + (op.row.length + 1), none⟩ = some (.int .i64 (pos.getD (op.row.length + 1) 0)) ∧ W0.cell? ⟨g, o + (op.row.length + 2), none⟩ = some (.int .i64 (pos.getD (op.row.length + 2) 0))) := fun hl => by
    obtain ⟨A, cap, rs, e, h1, h2, hrd, hls⟩ := hpos
    cases e
    have go : ∀ j (hj : j < pos.length), ∃ g o, Ap = some ⟨g, o, none⟩ ∧ W0.cell? ⟨g, o + j, none⟩ = some (.int .i64 (pos.getD j 0)) := fun j hj => by
      obtain ⟨g, o, e, hg, hi, c0⟩ := ints_at hrd hls hj
      exact ⟨g, o, e, (hB0.cell (p := ⟨g, o + j, none⟩) hg).trans (by rw [c0, List.getD_eq_getElem?_getD, List.getElem?_eq_getElem hj]; rfl)⟩
    obtain ⟨g, o, e, c0⟩ := go op.row.length (by omega)
    obtain ⟨g1, o1, e1, c1⟩ := go (op.row.length + 1) (by omega)
    obtain ⟨g2, o2, e2, c2⟩ := go (op.row.length + 2) (by omega)
    rw [e] at e1 e2
    cases e1
    cases e2
    exact ⟨g, o, e, c0, c1, c2⟩
  generalize keptS op pos = R at *
  generalize endsK op pos = R7 at *
  generalize lostS op pos = bl at *
  generalize atS op pos op.at_ = b1 at *
  generalize atS op pos (op.at_ + op.nodes.length) = b2 at *
  generalize atS op pos (op.at_ + 1) = b3 at *
  generalize begS pos op.row = bb at *
  obtain ⟨⟨m0, m1, m2, m3, m4, m5, m6, m7⟩, p0, hbw⟩ := KB.out W0 (Below.refl _ _)
  have HWW0 := hid hbw
  have HTW0 : Hid (Below W0.heap.size W0 W0) := Below.refl _ _
  obtain ⟨kind, row, at_, n, nodes, slot, old, text⟩ := op
  obtain ⟨a1, a2⟩ := hat
  simp only [opC] at *
  generalize pos.getD row.length 0 = x0 at *
  generalize pos.getD (row.length + 1) 0 = x1 at *
  generalize pos.getD (row.length + 2) 0 = x2 at *
  generalize pos.length = M at *
  generalize row.length = k at *
  generalize nodes.length = nl at *
  clear hok hr hpos hpb hbw hz0 hB0 HAT
  have hM : M ≤ 9223372036854775807 := by omega
  by_cases k2 : kind = 2
  · subst k2
    have hR := HR.out
    rw [if_pos rfl] at hR
    subst hR
    clear HR HEN HCL HA3 HBEG
    cases bl with
    | true =>
      go_enter Try.func17, Try.ntmps17
      go_wp2_with fail
      refine (HLOST.out _ HWW0.out).mono ?_
      rintro e w1 ⟨rfl, hb⟩
      have HTw1 := hid (blCall HTW0.out hb)
      clear hb m0 m1 m2 m3 m4 m5 m6 m7 p0
      obtain ⟨⟨m0, m1, m2, m3, m4, m5, m6, m7⟩, p0, hbw⟩ := KB.out w1 HTw1.out
      have HWw1 := hid hbw
      clear hbw
      go_wp2_with fail
      go_ret
      exact ⟨rfl, HWw1.out⟩
    | false =>
      cases b1 with
      | true =>
        go_enter Try.func17, Try.ntmps17
        go_wp2_with fail
        refine (HLOST.out _ HWW0.out).mono ?_
        rintro e w1 ⟨rfl, hb⟩
        have HTw1 := hid (blCall HTW0.out hb)
        clear hb m0 m1 m2 m3 m4 m5 m6 m7 p0
        obtain ⟨⟨m0, m1, m2, m3, m4, m5, m6, m7⟩, p0, hbw⟩ := KB.out w1 HTw1.out
        have HWw1 := hid hbw
        clear hbw
        go_wp2_with fail
        refine (HA1.out _ HTw1.out).mono ?_
        rintro e w2 ⟨rfl, hb⟩
        have HTw2 := hid (blCall HTw1.out hb)
        clear hb m0 m1 m2 m3 m4 m5 m6 m7 p0
        obtain ⟨⟨m0, m1, m2, m3, m4, m5, m6, m7⟩, p0, hbw⟩ := KB.out w2 HTw2.out
        have HWw2 := hid hbw
        clear hbw
        go_wp2_with fail
        go_ret
        exact ⟨rfl, HWw2.out⟩
      | false =>
        go_enter Try.func17, Try.ntmps17
        go_wp2_with fail
        refine (HLOST.out _ HWW0.out).mono ?_
        rintro e w1 ⟨rfl, hb⟩
        have HTw1 := hid (blCall HTW0.out hb)
        clear hb m0 m1 m2 m3 m4 m5 m6 m7 p0
        obtain ⟨⟨m0, m1, m2, m3, m4, m5, m6, m7⟩, p0, hbw⟩ := KB.out w1 HTw1.out
        have HWw1 := hid hbw
        clear hbw
        go_wp2_with fail
        refine (HA1.out _ HTw1.out).mono ?_
        rintro e w2 ⟨rfl, hb⟩
        have HTw2 := hid (blCall HTw1.out hb)
        clear hb m0 m1 m2 m3 m4 m5 m6 m7 p0
        obtain ⟨⟨m0, m1, m2, m3, m4, m5, m6, m7⟩, p0, hbw⟩ := KB.out w2 HTw2.out
        have HWw2 := hid hbw
        clear hbw
        go_wp2_with fail
        refine (HA2.out _ HTw2.out).mono ?_
        rintro e w3 ⟨rfl, hb⟩
        have HTw3 := hid (blCall HTw2.out hb)
        clear hb m0 m1 m2 m3 m4 m5 m6 m7 p0
        obtain ⟨⟨m0, m1, m2, m3, m4, m5, m6, m7⟩, p0, hbw⟩ := KB.out w3 HTw3.out
        have HWw3 := hid hbw
        clear hbw
        go_wp2_with fail
        go_ret
        exact ⟨ret_b (by simp), HWw3.out⟩
  have i2 : (kind == 2) = false := by simpa using k2
  by_cases k4 : kind = 4
  rotate_left
  · have i4 : (kind == 4) = false := by simpa using k4
    have hR := HR.out
    rw [if_neg k2, if_neg k4] at hR
    subst hR
    clear HR HEN HCL HA1 HA2 HA3 HBEG HLOST k2 k4
    go_enter Try.func17, Try.ntmps17
    go_wp2_with fail
    go_ret
    exact ⟨rfl, HWW0.out⟩
  subst k4
  have hR := HR.out
  rw [if_neg (by omega), if_pos rfl] at hR
  clear HR HA2 k2 i2
  have HR := hid hR
  clear hR
  have s3 : IntKind.i64.wrap ((k : Int) + 3) = (k : Int) + 3 := IntWalk.i64_in _ (by omega)
  have s1 : IntKind.i64.wrap ((k : Int) + 1) = ((k + 1 : Nat) : Int) := IntWalk.i64_in _ (by omega)
  have s2 : IntKind.i64.wrap ((k : Int) + 2) = ((k + 2 : Nat) : Int) := IntWalk.i64_in _ (by omega)
  go_enter Try.func17, Try.ntmps17
  go_upto_region 7 with fail
  go_cut [7] (fun s wx => s = .bool R7 ∧ ∃ nd, wx = W0.drewN nd)
  case first =>
    by_cases hl : M = k + 3
    rotate_left
    · have hr7 : R7 = false := by rw [HEN.out]; simp [hl]
      have t0 : ((M : Int) == (k : Int) + 3) = false := by simp; omega
      subst hr7
      clear HEN HCL hl
      go_quiet (fail)
      go_wp2_with fail
      go_meet
      exact ⟨rfl, _, rfl⟩
    have t0 : ((M : Int) == (k : Int) + 3) = true := by simp; omega
    obtain ⟨g, o, rfl, c0, c1, c2⟩ := HCL.out hl
    have j0 : (0 : Int) ≤ (k : Int) := by omega
    have j1 : (k : Int) < (M : Int) := by omega
    have j2 : (0 : Int) ≤ ((k + 1 : Nat) : Int) := by omega
    have j3 : ((k + 1 : Nat) : Int) < (M : Int) := by omega
    have j4 : (0 : Int) ≤ ((k + 2 : Nat) : Int) := by omega
    have j5 : ((k + 2 : Nat) : Int) < (M : Int) := by omega
    have hE : R7 = (bb && decide (x0 = at_) && decide (x1 = slot) && (decide (x2 = 0) || decide (x2 = n))) := by rw [HEN.out]; simp [hl]
    have HE := hid hE
    clear HEN HCL hl hE
    cases bb with
    | false =>
      have hr7 : R7 = false := by rw [HE.out]; simp
      subst hr7
      clear HE
      go_quiet ((go_at_call 26; exact Calls.quiet_of (HBEG.out _ (bl_dnC HWW0.out))))
      go_wp2_with fail
      go_meet
      exact ⟨rfl, _, rfl⟩
    | true =>
      by_cases h0 : x0 = at_
      rotate_left
      · have t1 : (x0 == at_) = false := by simpa using h0
        have hr7 : R7 = false := by rw [HE.out]; simp [h0]
        subst hr7
        clear HE
        go_quiet ((go_at_call 26; exact Calls.quiet_of (HBEG.out _ (bl_dnC HWW0.out))))
        go_wp2_with fail
        go_meet
        exact ⟨rfl, _, rfl⟩
      subst h0
      by_cases h1 : x1 = slot
      rotate_left
      · have t2 : (x1 == slot) = false := by simpa using h1
        have hr7 : R7 = false := by rw [HE.out]; simp [h1]
        subst hr7
        clear HE
        go_quiet ((go_at_call 26; exact Calls.quiet_of (HBEG.out _ (bl_dnC HWW0.out))))
        go_wp2_with fail
        go_meet
        exact ⟨rfl, _, rfl⟩
      subst h1
      by_cases h2 : x2 = 0
      · subst h2
        have hr7 : R7 = true := by rw [HE.out]; simp
        subst hr7
        clear HE
        go_quiet ((go_at_call 26; exact Calls.quiet_of (HBEG.out _ (bl_dnC HWW0.out))))
        go_wp2_with fail
        go_meet
        exact ⟨rfl, _, rfl⟩
      have t3 : (x2 == 0) = false := by simpa using h2
      by_cases h3 : x2 = n
      · subst h3
        have hr7 : R7 = true := by rw [HE.out]; simp
        subst hr7
        clear HE
        go_quiet ((go_at_call 26; exact Calls.quiet_of (HBEG.out _ (bl_dnC HWW0.out))))
        go_wp2_with fail
        go_meet
        exact ⟨rfl, _, rfl⟩
      have t4 : (x2 == n) = false := by simpa using h3
      have hr7 : R7 = false := by rw [HE.out]; simp [h2, h3]
      subst hr7
      clear HE
      go_quiet ((go_at_call 26; exact Calls.quiet_of (HBEG.out _ (bl_dnC HWW0.out))))
      go_wp2_with fail
      go_meet
      exact ⟨rfl, _, rfl⟩
  case rest =>
    clear HEN HCL HBEG
    obtain ⟨rfl, nd, rfl⟩ := hcut
    have HTX : Hid (Below W0.heap.size W0 (W0.drewN nd)) := bl_dnC (Below.refl _ _)
    have HWX : Hid (Below w.heap.size w (W0.drewN nd)) := bl_dnC HWW0.out
    cases bl with
    | true =>
      clear m0 m1 m2 m3 m4 m5 m6 m7 p0
      obtain ⟨⟨m0, m1, m2, m3, m4, m5, m6, m7⟩, p0, hbw⟩ := KB.out (W0.drewN nd) HTX.out
      have HWX2 := hid hbw
      clear hbw
      go_wp2_with fail
      refine (HLOST.out _ HWX.out).mono ?_
      rintro e w1 ⟨rfl, hb⟩
      have HTw1 := hid (blCall HTX.out hb)
      clear hb m0 m1 m2 m3 m4 m5 m6 m7 p0
      obtain ⟨⟨m0, m1, m2, m3, m4, m5, m6, m7⟩, p0, hbw⟩ := KB.out w1 HTw1.out
      have HWw1 := hid hbw
      clear hbw
      go_wp2_with fail
      go_ret
      exact ⟨ret_b (by rw [HR.out]; simp), HWw1.out⟩
    | false =>
      cases R7 with
      | true =>
        clear m0 m1 m2 m3 m4 m5 m6 m7 p0
        obtain ⟨⟨m0, m1, m2, m3, m4, m5, m6, m7⟩, p0, hbw⟩ := KB.out (W0.drewN nd) HTX.out
        have HWX2 := hid hbw
        clear hbw
        go_wp2_with fail
        refine (HLOST.out _ HWX.out).mono ?_
        rintro e w1 ⟨rfl, hb⟩
        have HTw1 := hid (blCall HTX.out hb)
        clear hb m0 m1 m2 m3 m4 m5 m6 m7 p0
        obtain ⟨⟨m0, m1, m2, m3, m4, m5, m6, m7⟩, p0, hbw⟩ := KB.out w1 HTw1.out
        have HWw1 := hid hbw
        clear hbw
        go_wp2_with fail
        go_ret
        exact ⟨ret_b (by rw [HR.out]; simp), HWw1.out⟩
      | false =>
        by_cases hn : n = 0
        rotate_left
        · have t5 : (n == 0) = false := by simpa using hn
          clear m0 m1 m2 m3 m4 m5 m6 m7 p0
          obtain ⟨⟨m0, m1, m2, m3, m4, m5, m6, m7⟩, p0, hbw⟩ := KB.out (W0.drewN nd) HTX.out
          have HWX2 := hid hbw
          clear hbw
          go_wp2_with fail
          refine (HLOST.out _ HWX.out).mono ?_
          rintro e w1 ⟨rfl, hb⟩
          have HTw1 := hid (blCall HTX.out hb)
          clear hb m0 m1 m2 m3 m4 m5 m6 m7 p0
          obtain ⟨⟨m0, m1, m2, m3, m4, m5, m6, m7⟩, p0, hbw⟩ := KB.out w1 HTw1.out
          have HWw1 := hid hbw
          clear hbw
          go_wp2_with fail
          go_ret
          exact ⟨ret_b (by rw [HR.out]; simp [hn]), HWw1.out⟩
        subst hn
        cases b1 with
        | true =>
          clear m0 m1 m2 m3 m4 m5 m6 m7 p0
          obtain ⟨⟨m0, m1, m2, m3, m4, m5, m6, m7⟩, p0, hbw⟩ := KB.out (W0.drewN nd) HTX.out
          have HWX2 := hid hbw
          clear hbw
          go_wp2_with fail
          refine (HLOST.out _ HWX.out).mono ?_
          rintro e w1 ⟨rfl, hb⟩
          have HTw1 := hid (blCall HTX.out hb)
          clear hb m0 m1 m2 m3 m4 m5 m6 m7 p0
          obtain ⟨⟨m0, m1, m2, m3, m4, m5, m6, m7⟩, p0, hbw⟩ := KB.out w1 HTw1.out
          have HWw1 := hid hbw
          clear hbw
          go_wp2_with fail
          refine (HA1.out _ HTw1.out).mono ?_
          rintro e w2 ⟨rfl, hb⟩
          have HTw2 := hid (blCall HTw1.out hb)
          clear hb m0 m1 m2 m3 m4 m5 m6 m7 p0
          obtain ⟨⟨m0, m1, m2, m3, m4, m5, m6, m7⟩, p0, hbw⟩ := KB.out w2 HTw2.out
          have HWw2 := hid hbw
          clear hbw
          go_wp2_with fail
          go_ret
          exact ⟨ret_b (by rw [HR.out]; simp), HWw2.out⟩
        | false =>
          clear m0 m1 m2 m3 m4 m5 m6 m7 p0
          obtain ⟨⟨m0, m1, m2, m3, m4, m5, m6, m7⟩, p0, hbw⟩ := KB.out (W0.drewN nd) HTX.out
          have HWX2 := hid hbw
          clear hbw
          go_wp2_with fail
          refine (HLOST.out _ HWX.out).mono ?_
          rintro e w1 ⟨rfl, hb⟩
          have HTw1 := hid (blCall HTX.out hb)
          clear hb m0 m1 m2 m3 m4 m5 m6 m7 p0
          obtain ⟨⟨m0, m1, m2, m3, m4, m5, m6, m7⟩, p0, hbw⟩ := KB.out w1 HTw1.out
          have HWw1 := hid hbw
          clear hbw
          go_wp2_with fail
          refine (HA1.out _ HTw1.out).mono ?_
          rintro e w2 ⟨rfl, hb⟩
          have HTw2 := hid (blCall HTw1.out hb)
          clear hb m0 m1 m2 m3 m4 m5 m6 m7 p0
          obtain ⟨⟨m0, m1, m2, m3, m4, m5, m6, m7⟩, p0, hbw⟩ := KB.out w2 HTw2.out
          have HWw2 := hid hbw
          clear hbw
          go_wp2_with fail
          refine (HA3.out _ HTw2.out).mono ?_
          rintro e w3 ⟨rfl, hb⟩
          have HTw3 := hid (blCall HTw2.out hb)
          clear hb m0 m1 m2 m3 m4 m5 m6 m7 p0
          obtain ⟨⟨m0, m1, m2, m3, m4, m5, m6, m7⟩, p0, hbw⟩ := KB.out w3 HTw3.out
          have HWw3 := hid hbw
          clear hbw
          go_wp2_with fail
          go_ret
          exact ⟨ret_b (by rw [HR.out]; simp), HWw3.out⟩
end Go.Proofs.Yteckkamlaibjbaa
/- vinculumlaw13.PosmapInverse: the walk. Written by wip/geninv.py. -/
set_option linter.unusedVariables false
set_option linter.unusedSimpArgs false
set_option maxRecDepth 100000
namespace Go.Proofs.Yteckkamlaibjbaa
open Go.RowKit

set_option maxHeartbeats 16000000 in
theorem pinv_walk (t : Tree) (op : OpD) (pos : List Int) (A Ar An Ap : Option Addr) (cap cr cn cp : Nat) (w : World) (hv : TreesS w (Lt w.heap.size) t.kids (.slice A t.kids.length cap)) (hok : NodeOk t) (ho : OpIn w op Ar An cr cn) (hpos : IntsR w (Lt w.heap.size) pos (.slice Ap pos.length cp)) :
    Calls Try.prog 4 #[.agg #[.int .i64 t.kind, .string t.text, .int .i64 t.cols, .slice A t.kids.length cap], .agg (opC op (.slice Ar op.row.length cr) (.slice An op.nodes.length cn)), .slice Ap pos.length cp] w fun e w' => e = .returned (.bool true) ∧ Below w.heap.size w w' := by
  have HFEW : Hid (∀ W, Below w.heap.size w W → Calls Try.prog 10 #[.agg #[.int .i64 t.kind, .string t.text, .int .i64 t.cols, .slice A t.kids.length cap], .slice Ap pos.length cp, .slice (some ⟨W.heap.size, 0, none⟩) 1 1] (W.alloc (.cells (opC op (.slice Ar op.row.length cr) (.slice An op.nodes.length cn)) 27)) fun e w' => e = .returned (.bool (few13S t pos [op])) ∧ Below W.heap.size W w') := by
    intro W hW
    have h1 : Below w.heap.size w (W.alloc (.cells (opC op (.slice Ar op.row.length cr) (.slice An op.nodes.length cn)) 27)) := hW.trans ((blA _ _).mono hW.size)
    exact (few13_any t pos [op] A Ap _ cap cp 1 _ (hv.below h1 h1.size) (hpos.below h1 h1.size) (op_lit W op Ar An cr cn ho.kind ho.at_ ho.n ho.slot ho.old ho.text (ho.row.below hW hW.size) (ho.nodes.below hW hW.size) _)).mono fun e w' h => ⟨h.1, (blA _ _).trans (h.2.mono (by simp))⟩
  generalize hW0 : (w.alloc (Obj.cells #[.int .i64 t.kind, .string t.text, .int .i64 t.cols, .slice A t.kids.length cap] 24)).alloc (Obj.cells (opC op (.slice Ar op.row.length cr) (.slice An op.nodes.length cn)) 27) = W0
  have hz0 : W0.heap.size = w.heap.size + 1 + 1 := by rw [← hW0]; simp
  have KB : Hid (∀ W, Below W0.heap.size W0 W → Box4 W w.heap.size t.kind t.text t.cols (.slice A t.kids.length cap) ∧ OpBox W (w.heap.size + 1) op (.slice Ar op.row.length cr) (.slice An op.nodes.length cn) ∧ Below w.heap.size w W) := fun W hW => by
    have hB0 : Below w.heap.size w W0 := by rw [← hW0]; exact blAlloc (blA _ _) _
    have hbT : Box4 W0 w.heap.size t.kind t.text t.cols (.slice A t.kids.length cap) := by
      rw [← hW0]
      exact (Box4.new w _ _ _ _ _).below (blA _ _) (by simp)
    have hbP : OpBox W0 (w.heap.size + 1) op (.slice Ar op.row.length cr) (.slice An op.nodes.length cn) := by
      rw [← hW0]
      have h := OpBox.new (w.alloc (Obj.cells #[.int .i64 t.kind, .string t.text, .int .i64 t.cols, .slice A t.kids.length cap] 24)) op (.slice Ar op.row.length cr) (.slice An op.nodes.length cn) 27
      simpa using h
    exact ⟨hbT.below hW (by omega), hbP.below hW (by omega), hB0.trans (hW.mono hB0.size)⟩
  cases hf : few13S t pos [op] with
  | false =>
    rw [hf] at HFEW
    obtain ⟨tk, tx, tc, ts⟩ := t
    obtain ⟨kind, row, at_, n, nodes, slot, old, text⟩ := op
    simp only [opC, Tree.kind, Tree.text, Tree.cols, Tree.kids] at *
    clear hf ho hv hok hz0 hpos
    go_enter Try.func4, Try.ntmps4
    go_wp2_with fail
    refine (awake_any _).mono ?_
    rintro e w1 ⟨rfl, hb1⟩
    obtain ⟨⟨m0, m1, m2, m3⟩, ⟨o0, o1, o2, o3, o4, o5, o6, o7⟩, hbw⟩ := KB.out w1 hb1
    have HK1 := hid hbw
    have HT1 := hid hb1
    clear hb1 hbw
    go_wp2_with fail
    refine (HFEW.out _ HK1.out).mono ?_
    rintro e w2 ⟨rfl, hb2⟩
    have HK2 := hid (blCall HK1.out hb2)
    clear hb2
    go_wp2_with fail
    refine (awake_any _).mono ?_
    rintro e w9 ⟨rfl, hb9⟩
    have HK9 := hid (blCall HK2.out hb9)
    clear hb9
    go_wp2_with fail
    go_ret
    exact ⟨rfl, HK9.out⟩
  | true =>
  rw [hf] at HFEW
  have hsm : opSmall pos op = true ∧ pos.length ≤ 60 ∧ fewS t 300 = true := by
    unfold few13S at hf
    simp only [List.all_cons, List.all_nil, Bool.and_true, Bool.and_eq_true, decide_eq_true_eq] at hf
    exact ⟨hf.1, hf.2.2, hf.2.1.1⟩
  obtain ⟨hsm, hpl, hf3⟩ := hsm
  have hct : countS t ≤ 900000 := by
    have := few_count hf3
    omega
  have hfw : opFewS op = true := by unfold opSmall at hsm; simp only [Bool.and_eq_true] at hsm; exact hsm.1.1.1
  have hcn : countsS op.nodes ≤ 100 := by
    unfold opFewS at hfw
    simp only [Bool.and_eq_true] at hfw
    have h := few_count hfw.1
    have h2 : countS (.mk 1 ⟨#[]⟩ 0 op.nodes) = 1 + countsS op.nodes := rfl
    omega
  obtain ⟨hok', hrb, hrl, hpb⟩ := opSmall_ok hsm (Nat.le_trans (opFew_len hfw) (by omega))
  have hpb' : ∀ x ∈ pos, Bd 1152921504606846976 x := fun x hx => (hpb x hx).mono (by omega)
  have HVAL : Hid (∀ W, Below w.heap.size w W → Calls Try.prog 15 #[.agg #[.int .i64 t.kind, .string t.text, .int .i64 t.cols, .slice A t.kids.length cap], .slice Ap pos.length cp] W fun e w' => e = .returned (.bool (validS t && posIn t pos)) ∧ Below W.heap.size W w') := fun W hW => rValid_any t pos A cap _ W (hv.below hW hW.size) hok.2.2 hct (hpos.below hW hW.size)
  have HKEPT : Hid (∀ W, Below w.heap.size w W → Calls Try.prog 17 #[.agg (opC op (.slice Ar op.row.length cr) (.slice An op.nodes.length cn)), .slice Ap pos.length cp] W fun e w' => e = .returned (.bool (keptS op pos)) ∧ Below W.heap.size W w') := fun W hW => kept_any op pos Ar An Ap cr cn cp W hok' (ho.row.below hW hW.size) (hpos.below hW hW.size) (by omega) hpb'
  cases hvp : (validS t && posIn t pos) with
  | false =>
    rw [hvp] at HVAL
    obtain ⟨tk, tx, tc, ts⟩ := t
    obtain ⟨kind, row, at_, n, nodes, slot, old, text⟩ := op
    simp only [opC, Tree.kind, Tree.text, Tree.cols, Tree.kids] at *
    clear hf ho hv hok hz0 hpos hsm hpl hf3 hct hfw hcn hok' hrb hrl hpb hpb' HKEPT hvp
    go_enter Try.func4, Try.ntmps4
    go_wp2_with fail
    refine (awake_any _).mono ?_
    rintro e w1 ⟨rfl, hb1⟩
    obtain ⟨⟨m0, m1, m2, m3⟩, ⟨o0, o1, o2, o3, o4, o5, o6, o7⟩, hbw⟩ := KB.out w1 hb1
    have HK1 := hid hbw
    have HT1 := hid hb1
    clear hb1 hbw
    go_wp2_with fail
    refine (HFEW.out _ HK1.out).mono ?_
    rintro e w2 ⟨rfl, hb2⟩
    have HT2 := hid (HT1.out.trans (hb2.mono HT1.out.size))
    clear hb2
    clear m0 m1 m2 m3 o0 o1 o2 o3 o4 o5 o6 o7
    obtain ⟨⟨m0, m1, m2, m3⟩, ⟨o0, o1, o2, o3, o4, o5, o6, o7⟩, hbw⟩ := KB.out w2 HT2.out
    have HK2 := hid hbw
    clear hbw
    go_wp2_with fail
    refine (HVAL.out _ HK2.out).mono ?_
    rintro e w3 ⟨rfl, hb3⟩
    have HK3 := hid (blCall HK2.out hb3)
    clear hb3
    go_wp2_with fail
    refine (awake_any _).mono ?_
    rintro e w9 ⟨rfl, hb9⟩
    have HK9 := hid (blCall HK3.out hb9)
    clear hb9
    go_wp2_with fail
    go_ret
    exact ⟨rfl, HK9.out⟩
  | true =>
  rw [hvp] at HVAL
  cases hks : keptS op pos with
  | false =>
    rw [hks] at HKEPT
    obtain ⟨tk, tx, tc, ts⟩ := t
    obtain ⟨kind, row, at_, n, nodes, slot, old, text⟩ := op
    simp only [opC, Tree.kind, Tree.text, Tree.cols, Tree.kids] at *
    clear hf ho hv hok hz0 hpos hsm hpl hf3 hct hfw hcn hok' hrb hrl hpb hpb' hvp hks
    go_enter Try.func4, Try.ntmps4
    go_wp2_with fail
    refine (awake_any _).mono ?_
    rintro e w1 ⟨rfl, hb1⟩
    obtain ⟨⟨m0, m1, m2, m3⟩, ⟨o0, o1, o2, o3, o4, o5, o6, o7⟩, hbw⟩ := KB.out w1 hb1
    have HK1 := hid hbw
    have HT1 := hid hb1
    clear hb1 hbw
    go_wp2_with fail
    refine (HFEW.out _ HK1.out).mono ?_
    rintro e w2 ⟨rfl, hb2⟩
    have HT2 := hid (HT1.out.trans (hb2.mono HT1.out.size))
    clear hb2
    clear m0 m1 m2 m3 o0 o1 o2 o3 o4 o5 o6 o7
    obtain ⟨⟨m0, m1, m2, m3⟩, ⟨o0, o1, o2, o3, o4, o5, o6, o7⟩, hbw⟩ := KB.out w2 HT2.out
    have HK2 := hid hbw
    clear hbw
    go_wp2_with fail
    refine (HVAL.out _ HK2.out).mono ?_
    rintro e w3 ⟨rfl, hb3⟩
    have HT3 := hid (HT2.out.trans (hb3.mono HT2.out.size))
    clear hb3
    clear m0 m1 m2 m3 o0 o1 o2 o3 o4 o5 o6 o7
    obtain ⟨⟨m0, m1, m2, m3⟩, ⟨o0, o1, o2, o3, o4, o5, o6, o7⟩, hbw⟩ := KB.out w3 HT3.out
    have HK3 := hid hbw
    clear hbw
    go_wp2_with fail
    refine (HKEPT.out _ HK3.out).mono ?_
    rintro e w4 ⟨rfl, hb4⟩
    have HK4 := hid (blCall HK3.out hb4)
    clear hb4
    go_wp2_with fail
    refine (awake_any _).mono ?_
    rintro e w9 ⟨rfl, hb9⟩
    have HK9 := hid (blCall HK4.out hb9)
    clear hb9
    go_wp2_with fail
    go_ret
    exact ⟨rfl, HK9.out⟩
  | true =>
  rw [hks] at HKEPT
  simp only [Bool.and_eq_true] at hvp
  obtain ⟨hvt, hpi⟩ := hvp
  have HAPP : Hid (∀ W, Below w.heap.size w W → Calls Try.prog 12 #[.agg #[.int .i64 t.kind, .string t.text, .int .i64 t.cols, .slice A t.kids.length cap], .agg (opC op (.slice Ar op.row.length cr) (.slice An op.nodes.length cn))] W (ApplyP (Lt w.heap.size) W (applyS t op))) := fun W hW =>
    apply_any t op A Ar An cap cr cn W (Lt w.heap.size) (fun q hq => Nat.lt_of_lt_of_le hq hW.size) (hv.below hW (Nat.le_refl _)) hok hct ⟨ho.at_, ho.n, ho.text, by omega⟩ (ho.row.below hW hW.size) (ho.nodes.below hW (Nat.le_refl _))
  obtain ⟨⟨m, er⟩, hap⟩ : ∃ r, applyS t op = r := ⟨_, rfl⟩
  rw [hap] at HAPP
  rcases Decidable.em (er = 0) with he | he
  case inr =>
    have i0 : (er != 0) = true := by simpa using he
    obtain ⟨mk, mx, mc, ms⟩ := m
    obtain ⟨tk, tx, tc, ts⟩ := t
    obtain ⟨kind, row, at_, n, nodes, slot, old, text⟩ := op
    simp only [opC, Tree.kind, Tree.text, Tree.cols, Tree.kids] at *
    clear hf ho hv hok hz0 hpos hsm hpl hf3 hct hfw hcn hok' hrb hrl hpb hpb' hvt hpi hks hap he
    go_enter Try.func4, Try.ntmps4
    go_wp2_with fail
    refine (awake_any _).mono ?_
    rintro e w1 ⟨rfl, hb1⟩
    obtain ⟨⟨m0, m1, m2, m3⟩, ⟨o0, o1, o2, o3, o4, o5, o6, o7⟩, hbw⟩ := KB.out w1 hb1
    have HK1 := hid hbw
    have HT1 := hid hb1
    clear hb1 hbw
    go_wp2_with fail
    refine (HFEW.out _ HK1.out).mono ?_
    rintro e w2 ⟨rfl, hb2⟩
    have HT2 := hid (HT1.out.trans (hb2.mono HT1.out.size))
    clear hb2
    clear m0 m1 m2 m3 o0 o1 o2 o3 o4 o5 o6 o7
    obtain ⟨⟨m0, m1, m2, m3⟩, ⟨o0, o1, o2, o3, o4, o5, o6, o7⟩, hbw⟩ := KB.out w2 HT2.out
    have HK2 := hid hbw
    clear hbw
    go_wp2_with fail
    refine (HVAL.out _ HK2.out).mono ?_
    rintro e w3 ⟨rfl, hb3⟩
    have HT3 := hid (HT2.out.trans (hb3.mono HT2.out.size))
    clear hb3
    clear m0 m1 m2 m3 o0 o1 o2 o3 o4 o5 o6 o7
    obtain ⟨⟨m0, m1, m2, m3⟩, ⟨o0, o1, o2, o3, o4, o5, o6, o7⟩, hbw⟩ := KB.out w3 HT3.out
    have HK3 := hid hbw
    clear hbw
    go_wp2_with fail
    refine (HKEPT.out _ HK3.out).mono ?_
    rintro e w4 ⟨rfl, hb4⟩
    have HT4 := hid (HT3.out.trans (hb4.mono HT3.out.size))
    clear hb4
    clear m0 m1 m2 m3 o0 o1 o2 o3 o4 o5 o6 o7
    obtain ⟨⟨m0, m1, m2, m3⟩, ⟨o0, o1, o2, o3, o4, o5, o6, o7⟩, hbw⟩ := KB.out w4 HT4.out
    have HK4 := hid hbw
    clear hbw
    go_wp2_with fail
    refine (HAPP.out _ HK4.out).mono ?_
    intro e w6 h6
    obtain ⟨v6, rfl, hr6, hb6⟩ : ∃ v, e = .returned (.tuple #[.agg #[.int .i64 mk, .string mx, .int .i64 mc, v], .int .i64 er]) ∧ SliceR treeE w6 (NS (Lt w.heap.size) w4.heap.size w6) ms v ∧ Below w4.heap.size w4 w6 := h6
    obtain ⟨A6, c6, rfl⟩ := hr6.form
    have HK6 := hid (blCall HK4.out hb6)
    clear hb6 hr6 m0 m1 m2 m3 o0 o1 o2 o3 o4 o5 o6 o7
    go_wp2_with fail
    go_ret
    exact ⟨rfl, blAlloc HK6.out _⟩
  subst he
  have hap' := apply_ok hap
  have hcm := (valid_count hap'.2.1).1
  have hcm2 := (valid_count hap'.2.1).2.2.2
  have HMP : Hid (∀ x, (mapS op pos x).length ≤ 1000 ∧ ∀ y ∈ mapS op pos x, Bd 1152921504606846976 y) := fun x => by
    have h1 := (apply_pos hap x).1 pos hpi
    have hb := posIn_bd m _ h1
    exact ⟨by omega, fun y hy => by have := hb.2 y hy; unfold Bd; omega⟩
  have HINV : Hid (∀ x0 x1, mapS (invS op) (mapS op pos x0) x1 = pos) := inv_plain hap pos hpi hks
  have hik : (invS op).Ok := ⟨hok'.at_, hok'.n, hok'.slot, hok'.nodes, hok'.row⟩
  have HM1 : Hid (∀ W x, Below w.heap.size w W → Calls Try.prog 14 #[.agg (opC op (.slice Ar op.row.length cr) (.slice An op.nodes.length cn)), .slice Ap pos.length cp, .bool x] W (IntsPost W (mapS op pos x))) := fun W x hW =>
    map_any op pos x Ar An Ap cr cn cp W hok' (ho.row.below hW hW.size) (hpos.below hW hW.size) (by omega) hpb'
  have HM2 : Hid (∀ W A' c' x0 x1, Below w.heap.size w W → IntsR W (Lt W.heap.size) (mapS op pos x0) (.slice A' (mapS op pos x0).length c') → Calls Try.prog 14 #[.agg (opC (invS op) (.slice Ar op.row.length cr) (.slice An op.nodes.length cn)), .slice A' (mapS op pos x0).length c', .bool x1] W (IntsPost W pos)) := fun W A' c' x0 x1 hW hi => by
    have h := map_any (invS op) (mapS op pos x0) x1 Ar An A' cr cn c' W hik (ho.row.below hW hW.size) hi (by have := (HMP.out x0).1; omega) (HMP.out x0).2
    rw [HINV.out] at h
    exact h
  have HSM : Hid (∀ W A' c', Below w.heap.size w W → IntsR W (Lt W.heap.size) pos (.slice A' pos.length c') → Calls Try.prog 19 #[.slice A' pos.length c', .slice Ap pos.length cp] W fun e w' => e = .returned (.bool true) ∧ ∃ n, w' = W.drewN n) := fun W A' c' hW hi => by
    have h := same_q pos pos W _ _ _ _ hi (hpos.below hW hW.size)
    have e : decide (cmpS pos pos = 0) = true := by rw [decide_eq_true_eq, cmpS_zero]
    rw [e] at h
    exact h
  have CIV : Hid (∀ W, Calls Try.prog 18 #[.agg (opC op (.slice Ar op.row.length cr) (.slice An op.nodes.length cn))] W fun e w' => e = .returned (.agg (opC (invS op) (.slice Ar op.row.length cr) (.slice An op.nodes.length cn))) ∧ Below W.heap.size W w') := fun W => invert_any op Ar An op.row.length op.nodes.length cr cn W
  obtain ⟨mk, mx, mc, ms⟩ := m
  generalize mapS op pos = MP at *
  obtain ⟨jop, hjop⟩ : ∃ jop, invS op = jop := ⟨_, rfl⟩
  rw [hjop] at HM2 CIV
  have hj1 : jop.row = op.row ∧ jop.nodes = op.nodes := by rw [← hjop]; exact ⟨rfl, rfl⟩
  clear hf hv hok hz0 hpos hsm hpl hf3 hct hfw hcn hok' hrb hrl hpb hpb' hvt hpi hks hap hap' hcm hcm2 HMP HINV hik hjop ho
  obtain ⟨tk, tx, tc, ts⟩ := t
  obtain ⟨kind, row, at_, n, nodes, slot, old, text⟩ := op
  obtain ⟨jkind, jrow, jat, jn, jnodes, jslot, jold, jtext⟩ := jop
  obtain ⟨rfl, rfl⟩ := hj1
  simp only [opC, Tree.kind, Tree.text, Tree.cols, Tree.kids] at *
  go_enter Try.func4, Try.ntmps4
  go_wp2_with fail
  refine (awake_any _).mono ?_
  rintro e w1 ⟨rfl, hb1⟩
  obtain ⟨⟨m0, m1, m2, m3⟩, ⟨o0, o1, o2, o3, o4, o5, o6, o7⟩, hbw⟩ := KB.out w1 hb1
  have HK1 := hid hbw
  have HT1 := hid hb1
  clear hb1 hbw
  go_wp2_with fail
  refine (HFEW.out _ HK1.out).mono ?_
  rintro e w2 ⟨rfl, hb2⟩
  have HT2 := hid (HT1.out.trans (hb2.mono HT1.out.size))
  clear hb2
  clear m0 m1 m2 m3 o0 o1 o2 o3 o4 o5 o6 o7
  obtain ⟨⟨m0, m1, m2, m3⟩, ⟨o0, o1, o2, o3, o4, o5, o6, o7⟩, hbw⟩ := KB.out w2 HT2.out
  have HK2 := hid hbw
  clear hbw
  go_wp2_with fail
  refine (HVAL.out _ HK2.out).mono ?_
  rintro e w3 ⟨rfl, hb3⟩
  have HT3 := hid (HT2.out.trans (hb3.mono HT2.out.size))
  clear hb3
  clear m0 m1 m2 m3 o0 o1 o2 o3 o4 o5 o6 o7
  obtain ⟨⟨m0, m1, m2, m3⟩, ⟨o0, o1, o2, o3, o4, o5, o6, o7⟩, hbw⟩ := KB.out w3 HT3.out
  have HK3 := hid hbw
  clear hbw
  go_wp2_with fail
  refine (HKEPT.out _ HK3.out).mono ?_
  rintro e w4 ⟨rfl, hb4⟩
  have HT4 := hid (HT3.out.trans (hb4.mono HT3.out.size))
  clear hb4
  clear m0 m1 m2 m3 o0 o1 o2 o3 o4 o5 o6 o7
  obtain ⟨⟨m0, m1, m2, m3⟩, ⟨o0, o1, o2, o3, o4, o5, o6, o7⟩, hbw⟩ := KB.out w4 HT4.out
  have HK4 := hid hbw
  clear hbw
  go_wp2_with fail
  refine (HAPP.out _ HK4.out).mono ?_
  intro e w6 h6
  obtain ⟨v6, rfl, hr6, hb6⟩ : ∃ v, e = .returned (.tuple #[.agg #[.int .i64 mk, .string mx, .int .i64 mc, v], .int .i64 0]) ∧ SliceR treeE w6 (NS (Lt w.heap.size) w4.heap.size w6) ms v ∧ Below w4.heap.size w4 w6 := h6
  obtain ⟨A6, c6, rfl⟩ := hr6.form
  have HT6 := hid (blCall HT4.out hb6)
  clear hb6 hr6 m0 m1 m2 m3 o0 o1 o2 o3 o4 o5 o6 o7
  go_upto_region 6 with fail
  obtain ⟨X, hX⟩ : ∃ X, w6.alloc (Obj.cells #[.int .i64 mk, .string mx, .int .i64 mc, .slice A6 ms.length c6] 24) = X := ⟨_, rfl⟩
  rw [hX]
  have hXB : Below w6.heap.size w6 X := by rw [← hX]; exact blA _ _
  have HTX := hid (blCall HT6.out hXB)
  clear hX hXB
  obtain ⟨_, ⟨o0, o1, o2, o3, o4, o5, o6, o7⟩, hbw⟩ := KB.out X HTX.out
  clear hbw
  go_wp2_with fail
  refine (CIV.out _).mono ?_
  rintro e w7 ⟨rfl, hb7⟩
  have HT7 := hid (blCall HTX.out hb7)
  clear hb7 o0 o1 o2 o3 o4 o5 o6 o7
  go_upto_region 7 with fail
  obtain ⟨Y, hY⟩ : ∃ Y, w7.alloc (Obj.cells #[.int .i64 jkind, .slice Ar jrow.length cr, .int .i64 jat, .int .i64 jn, .slice An jnodes.length cn, .int .i64 jslot, .string jold, .string jtext] 27) = Y := ⟨_, rfl⟩
  rw [hY]
  have hYB : Below w7.heap.size w7 Y := by rw [← hY]; exact blA _ _
  have hYO : OpBox Y w7.heap.size ⟨jkind, jrow, jat, jn, jnodes, jslot, jold, jtext⟩ (.slice Ar jrow.length cr) (.slice An jnodes.length cn) := by rw [← hY]; exact OpBox.new w7 ⟨jkind, jrow, jat, jn, jnodes, jslot, jold, jtext⟩ _ _ _
  have hYZ : w7.heap.size < Y.heap.size := by rw [← hY]; simp
  have HTY := hid (blCall HT7.out hYB)
  have KY : Hid (∀ W, Below Y.heap.size Y W → OpBox W w7.heap.size ⟨jkind, jrow, jat, jn, jnodes, jslot, jold, jtext⟩ (.slice Ar jrow.length cr) (.slice An jnodes.length cn) ∧ OpBox W (w.heap.size + 1) ⟨kind, jrow, at_, n, jnodes, slot, old, text⟩ (.slice Ar jrow.length cr) (.slice An jnodes.length cn) ∧ Below w.heap.size w W) := fun W hW =>
    ⟨hYO.below hW hYZ, (KB.out W (blCall HTY.out hW)).2⟩
  clear hY hYB hYO hYZ HFEW HVAL HKEPT HAPP CIV
  go_wp2_with fail
  go_loopw [50] (fun i wr => Below Y.heap.size Y wr ∧ ∃ k : Nat, k ≤ 4 ∧ i = .int .i64 k) (fun i _ => 4 - (intOf i).toNat)
  case atStart => exact ⟨Below.refl _ _, 0, by omega, rfl⟩
  case round =>
    obtain ⟨hb, k, hk, rfl⟩ := hrel
    have HB := hid hb
    clear hb
    have hk5 : k = 4 ∨ k = 0 ∨ k = 1 ∨ k = 2 ∨ k = 3 := by omega
    rcases hk5 with rfl | hk5
    · obtain ⟨_, _, hbw⟩ := KY.out wr HB.out
      have HWR := hid hbw
      clear hbw
      go_wp2_with fail
      go_ret
      exact ⟨rfl, HWR.out⟩
    rcases hk5 with rfl | rfl | rfl | rfl
    · have hix : ∀ W : World, (Instr.index 44 (.agg #[.bool false, .bool false, .bool false, .bool true, .bool true, .bool false, .bool true, .bool true]) (.int .i64 0)).run Try.prog W = .ok (.agg #[.bool false, .bool false]) W := fun _ => by kernel_rfl
      go_upto_region 10 with fail
      clear hix
      generalize hV : wr.alloc _ = V
      have hVB : Below wr.heap.size wr V := by rw [← hV]; exact blA _ _
      have v0 : V.cell? ⟨wr.heap.size, 0, none⟩ = some (.bool false) := by rw [← hV]; exact newC _ _ _ _ _ rfl
      have v1 : V.cell? ⟨wr.heap.size, 1, none⟩ = some (.bool false) := by rw [← hV]; exact newC _ _ _ _ _ rfl
      have hVZ : wr.heap.size < V.heap.size := by rw [← hV]; simp
      have HTV := hid (blCall HB.out hVB)
      have KV : Hid (∀ W, Below V.heap.size V W → OpBox W w7.heap.size ⟨jkind, jrow, jat, jn, jnodes, jslot, jold, jtext⟩ (.slice Ar jrow.length cr) (.slice An jnodes.length cn) ∧ OpBox W (w.heap.size + 1) ⟨kind, jrow, at_, n, jnodes, slot, old, text⟩ (.slice Ar jrow.length cr) (.slice An jnodes.length cn) ∧ (W.cell? ⟨wr.heap.size, 0, none⟩ = some (.bool false) ∧ W.cell? ⟨wr.heap.size, 1, none⟩ = some (.bool false)) ∧ Below w.heap.size w W) := fun W hW => by
        obtain ⟨h1, h2, h3⟩ := KY.out W (blCall HTV.out hW)
        exact ⟨h1, h2, ⟨(hW.cell (p := ⟨wr.heap.size, 0, none⟩) hVZ).trans v0, (hW.cell (p := ⟨wr.heap.size, 1, none⟩) hVZ).trans v1⟩, h3⟩
      clear hV hVB v0 v1 hVZ
      obtain ⟨⟨i0, i1, i2, i3, i4, i5, i6, i7⟩, ⟨o0, o1, o2, o3, o4, o5, o6, o7⟩, ⟨v0, v1⟩, hbw⟩ := KV.out V (Below.refl _ _)
      have HVD : Hid (Below V.heap.size V V.drew) := (Below.refl _ _).drew
      clear hbw
      go_region_held3 (fun w' => w'.cell? ⟨w7.heap.size, 0, none⟩ = some (.int .i64 jkind) ∧ w'.cell? ⟨w7.heap.size, 1, none⟩ = some (.slice Ar jrow.length cr) ∧ w'.cell? ⟨w7.heap.size, 2, none⟩ = some (.int .i64 jat) ∧ w'.cell? ⟨w7.heap.size, 3, none⟩ = some (.int .i64 jn) ∧ w'.cell? ⟨w7.heap.size, 4, none⟩ = some (.slice An jnodes.length cn) ∧ w'.cell? ⟨w7.heap.size, 5, none⟩ = some (.int .i64 jslot) ∧ w'.cell? ⟨w7.heap.size, 6, none⟩ = some (.string jold) ∧ w'.cell? ⟨w7.heap.size, 7, none⟩ = some (.string jtext) ∧ w'.cell? ⟨w.heap.size + 1, 0, none⟩ = some (.int .i64 kind) ∧ w'.cell? ⟨w.heap.size + 1, 1, none⟩ = some (.slice Ar jrow.length cr) ∧ w'.cell? ⟨w.heap.size + 1, 2, none⟩ = some (.int .i64 at_) ∧ w'.cell? ⟨w.heap.size + 1, 3, none⟩ = some (.int .i64 n) ∧ w'.cell? ⟨w.heap.size + 1, 4, none⟩ = some (.slice An jnodes.length cn) ∧ w'.cell? ⟨w.heap.size + 1, 5, none⟩ = some (.int .i64 slot) ∧ w'.cell? ⟨w.heap.size + 1, 6, none⟩ = some (.string old) ∧ w'.cell? ⟨w.heap.size + 1, 7, none⟩ = some (.string text) ∧ w'.cell? ⟨wr.heap.size, 0, none⟩ = some (.bool false) ∧ w'.cell? ⟨wr.heap.size, 1, none⟩ = some (.bool false)) (go_keep) (first
        | (go_at_call 14; (with_reducible refine (HM1.out _ _ (KV.out _ HVD.out).2.2.2).mono ?_); rintro e w8 ⟨v8, rfl, hi8, hb8⟩; obtain ⟨A8, c8, rfl⟩ := hi8.form; have HI8 := hid hi8; have HB8 : Hid (Below V.heap.size V w8) := ofDrew hb8; clear hi8 hb8; obtain ⟨⟨i0, i1, i2, i3, i4, i5, i6, i7⟩, ⟨o0, o1, o2, o3, o4, o5, o6, o7⟩, ⟨v0, v1⟩, _⟩ := KV.out w8 HB8.out)
        | (go_at_call 14; (with_reducible refine (HM2.out _ _ _ _ _ (KV.out _ HB8.out).2.2.2 HI8.out).mono ?_); rintro e w9 ⟨v9, rfl, hi9, hb9⟩; obtain ⟨A9, c9, rfl⟩ := hi9.form; have HI9 := hid hi9; have HB9 := hid (blCall HB8.out hb9); clear hi9 hb9; obtain ⟨⟨i0, i1, i2, i3, i4, i5, i6, i7⟩, ⟨o0, o1, o2, o3, o4, o5, o6, o7⟩, ⟨v0, v1⟩, _⟩ := KV.out w9 HB9.out)
        | (go_at_call 19; refine (HSM.out _ _ _ (KV.out _ HB9.out).2.2.2 HI9.out).mono ?_; rintro e w10 ⟨rfl, n10, rfl⟩))
      all_goals
        go_wp2_with fail
        go_roundw
        case rel => exact ⟨bl_dnC (blCall HTV.out HB9.out), 1, by omega, by go_num⟩
        case measure => simp [intOf]
    · have hix : ∀ W : World, (Instr.index 44 (.agg #[.bool false, .bool false, .bool false, .bool true, .bool true, .bool false, .bool true, .bool true]) (.int .i64 1)).run Try.prog W = .ok (.agg #[.bool false, .bool true]) W := fun _ => by kernel_rfl
      go_upto_region 10 with fail
      clear hix
      generalize hV : wr.alloc _ = V
      have hVB : Below wr.heap.size wr V := by rw [← hV]; exact blA _ _
      have v0 : V.cell? ⟨wr.heap.size, 0, none⟩ = some (.bool false) := by rw [← hV]; exact newC _ _ _ _ _ rfl
      have v1 : V.cell? ⟨wr.heap.size, 1, none⟩ = some (.bool true) := by rw [← hV]; exact newC _ _ _ _ _ rfl
      have hVZ : wr.heap.size < V.heap.size := by rw [← hV]; simp
      have HTV := hid (blCall HB.out hVB)
      have KV : Hid (∀ W, Below V.heap.size V W → OpBox W w7.heap.size ⟨jkind, jrow, jat, jn, jnodes, jslot, jold, jtext⟩ (.slice Ar jrow.length cr) (.slice An jnodes.length cn) ∧ OpBox W (w.heap.size + 1) ⟨kind, jrow, at_, n, jnodes, slot, old, text⟩ (.slice Ar jrow.length cr) (.slice An jnodes.length cn) ∧ (W.cell? ⟨wr.heap.size, 0, none⟩ = some (.bool false) ∧ W.cell? ⟨wr.heap.size, 1, none⟩ = some (.bool true)) ∧ Below w.heap.size w W) := fun W hW => by
        obtain ⟨h1, h2, h3⟩ := KY.out W (blCall HTV.out hW)
        exact ⟨h1, h2, ⟨(hW.cell (p := ⟨wr.heap.size, 0, none⟩) hVZ).trans v0, (hW.cell (p := ⟨wr.heap.size, 1, none⟩) hVZ).trans v1⟩, h3⟩
      clear hV hVB v0 v1 hVZ
      obtain ⟨⟨i0, i1, i2, i3, i4, i5, i6, i7⟩, ⟨o0, o1, o2, o3, o4, o5, o6, o7⟩, ⟨v0, v1⟩, hbw⟩ := KV.out V (Below.refl _ _)
      have HVD : Hid (Below V.heap.size V V.drew) := (Below.refl _ _).drew
      clear hbw
      go_region_held3 (fun w' => w'.cell? ⟨w7.heap.size, 0, none⟩ = some (.int .i64 jkind) ∧ w'.cell? ⟨w7.heap.size, 1, none⟩ = some (.slice Ar jrow.length cr) ∧ w'.cell? ⟨w7.heap.size, 2, none⟩ = some (.int .i64 jat) ∧ w'.cell? ⟨w7.heap.size, 3, none⟩ = some (.int .i64 jn) ∧ w'.cell? ⟨w7.heap.size, 4, none⟩ = some (.slice An jnodes.length cn) ∧ w'.cell? ⟨w7.heap.size, 5, none⟩ = some (.int .i64 jslot) ∧ w'.cell? ⟨w7.heap.size, 6, none⟩ = some (.string jold) ∧ w'.cell? ⟨w7.heap.size, 7, none⟩ = some (.string jtext) ∧ w'.cell? ⟨w.heap.size + 1, 0, none⟩ = some (.int .i64 kind) ∧ w'.cell? ⟨w.heap.size + 1, 1, none⟩ = some (.slice Ar jrow.length cr) ∧ w'.cell? ⟨w.heap.size + 1, 2, none⟩ = some (.int .i64 at_) ∧ w'.cell? ⟨w.heap.size + 1, 3, none⟩ = some (.int .i64 n) ∧ w'.cell? ⟨w.heap.size + 1, 4, none⟩ = some (.slice An jnodes.length cn) ∧ w'.cell? ⟨w.heap.size + 1, 5, none⟩ = some (.int .i64 slot) ∧ w'.cell? ⟨w.heap.size + 1, 6, none⟩ = some (.string old) ∧ w'.cell? ⟨w.heap.size + 1, 7, none⟩ = some (.string text) ∧ w'.cell? ⟨wr.heap.size, 0, none⟩ = some (.bool false) ∧ w'.cell? ⟨wr.heap.size, 1, none⟩ = some (.bool true)) (go_keep) (first
        | (go_at_call 14; (with_reducible refine (HM1.out _ _ (KV.out _ HVD.out).2.2.2).mono ?_); rintro e w8 ⟨v8, rfl, hi8, hb8⟩; obtain ⟨A8, c8, rfl⟩ := hi8.form; have HI8 := hid hi8; have HB8 : Hid (Below V.heap.size V w8) := ofDrew hb8; clear hi8 hb8; obtain ⟨⟨i0, i1, i2, i3, i4, i5, i6, i7⟩, ⟨o0, o1, o2, o3, o4, o5, o6, o7⟩, ⟨v0, v1⟩, _⟩ := KV.out w8 HB8.out)
        | (go_at_call 14; (with_reducible refine (HM2.out _ _ _ _ _ (KV.out _ HB8.out).2.2.2 HI8.out).mono ?_); rintro e w9 ⟨v9, rfl, hi9, hb9⟩; obtain ⟨A9, c9, rfl⟩ := hi9.form; have HI9 := hid hi9; have HB9 := hid (blCall HB8.out hb9); clear hi9 hb9; obtain ⟨⟨i0, i1, i2, i3, i4, i5, i6, i7⟩, ⟨o0, o1, o2, o3, o4, o5, o6, o7⟩, ⟨v0, v1⟩, _⟩ := KV.out w9 HB9.out)
        | (go_at_call 19; refine (HSM.out _ _ _ (KV.out _ HB9.out).2.2.2 HI9.out).mono ?_; rintro e w10 ⟨rfl, n10, rfl⟩))
      all_goals
        go_wp2_with fail
        go_roundw
        case rel => exact ⟨bl_dnC (blCall HTV.out HB9.out), 2, by omega, by go_num⟩
        case measure => simp [intOf]
    · have hix : ∀ W : World, (Instr.index 44 (.agg #[.bool false, .bool false, .bool false, .bool true, .bool true, .bool false, .bool true, .bool true]) (.int .i64 2)).run Try.prog W = .ok (.agg #[.bool true, .bool false]) W := fun _ => by kernel_rfl
      go_upto_region 10 with fail
      clear hix
      generalize hV : wr.alloc _ = V
      have hVB : Below wr.heap.size wr V := by rw [← hV]; exact blA _ _
      have v0 : V.cell? ⟨wr.heap.size, 0, none⟩ = some (.bool true) := by rw [← hV]; exact newC _ _ _ _ _ rfl
      have v1 : V.cell? ⟨wr.heap.size, 1, none⟩ = some (.bool false) := by rw [← hV]; exact newC _ _ _ _ _ rfl
      have hVZ : wr.heap.size < V.heap.size := by rw [← hV]; simp
      have HTV := hid (blCall HB.out hVB)
      have KV : Hid (∀ W, Below V.heap.size V W → OpBox W w7.heap.size ⟨jkind, jrow, jat, jn, jnodes, jslot, jold, jtext⟩ (.slice Ar jrow.length cr) (.slice An jnodes.length cn) ∧ OpBox W (w.heap.size + 1) ⟨kind, jrow, at_, n, jnodes, slot, old, text⟩ (.slice Ar jrow.length cr) (.slice An jnodes.length cn) ∧ (W.cell? ⟨wr.heap.size, 0, none⟩ = some (.bool true) ∧ W.cell? ⟨wr.heap.size, 1, none⟩ = some (.bool false)) ∧ Below w.heap.size w W) := fun W hW => by
        obtain ⟨h1, h2, h3⟩ := KY.out W (blCall HTV.out hW)
        exact ⟨h1, h2, ⟨(hW.cell (p := ⟨wr.heap.size, 0, none⟩) hVZ).trans v0, (hW.cell (p := ⟨wr.heap.size, 1, none⟩) hVZ).trans v1⟩, h3⟩
      clear hV hVB v0 v1 hVZ
      obtain ⟨⟨i0, i1, i2, i3, i4, i5, i6, i7⟩, ⟨o0, o1, o2, o3, o4, o5, o6, o7⟩, ⟨v0, v1⟩, hbw⟩ := KV.out V (Below.refl _ _)
      have HVD : Hid (Below V.heap.size V V.drew) := (Below.refl _ _).drew
      clear hbw
      go_region_held3 (fun w' => w'.cell? ⟨w7.heap.size, 0, none⟩ = some (.int .i64 jkind) ∧ w'.cell? ⟨w7.heap.size, 1, none⟩ = some (.slice Ar jrow.length cr) ∧ w'.cell? ⟨w7.heap.size, 2, none⟩ = some (.int .i64 jat) ∧ w'.cell? ⟨w7.heap.size, 3, none⟩ = some (.int .i64 jn) ∧ w'.cell? ⟨w7.heap.size, 4, none⟩ = some (.slice An jnodes.length cn) ∧ w'.cell? ⟨w7.heap.size, 5, none⟩ = some (.int .i64 jslot) ∧ w'.cell? ⟨w7.heap.size, 6, none⟩ = some (.string jold) ∧ w'.cell? ⟨w7.heap.size, 7, none⟩ = some (.string jtext) ∧ w'.cell? ⟨w.heap.size + 1, 0, none⟩ = some (.int .i64 kind) ∧ w'.cell? ⟨w.heap.size + 1, 1, none⟩ = some (.slice Ar jrow.length cr) ∧ w'.cell? ⟨w.heap.size + 1, 2, none⟩ = some (.int .i64 at_) ∧ w'.cell? ⟨w.heap.size + 1, 3, none⟩ = some (.int .i64 n) ∧ w'.cell? ⟨w.heap.size + 1, 4, none⟩ = some (.slice An jnodes.length cn) ∧ w'.cell? ⟨w.heap.size + 1, 5, none⟩ = some (.int .i64 slot) ∧ w'.cell? ⟨w.heap.size + 1, 6, none⟩ = some (.string old) ∧ w'.cell? ⟨w.heap.size + 1, 7, none⟩ = some (.string text) ∧ w'.cell? ⟨wr.heap.size, 0, none⟩ = some (.bool true) ∧ w'.cell? ⟨wr.heap.size, 1, none⟩ = some (.bool false)) (go_keep) (first
        | (go_at_call 14; (with_reducible refine (HM1.out _ _ (KV.out _ HVD.out).2.2.2).mono ?_); rintro e w8 ⟨v8, rfl, hi8, hb8⟩; obtain ⟨A8, c8, rfl⟩ := hi8.form; have HI8 := hid hi8; have HB8 : Hid (Below V.heap.size V w8) := ofDrew hb8; clear hi8 hb8; obtain ⟨⟨i0, i1, i2, i3, i4, i5, i6, i7⟩, ⟨o0, o1, o2, o3, o4, o5, o6, o7⟩, ⟨v0, v1⟩, _⟩ := KV.out w8 HB8.out)
        | (go_at_call 14; (with_reducible refine (HM2.out _ _ _ _ _ (KV.out _ HB8.out).2.2.2 HI8.out).mono ?_); rintro e w9 ⟨v9, rfl, hi9, hb9⟩; obtain ⟨A9, c9, rfl⟩ := hi9.form; have HI9 := hid hi9; have HB9 := hid (blCall HB8.out hb9); clear hi9 hb9; obtain ⟨⟨i0, i1, i2, i3, i4, i5, i6, i7⟩, ⟨o0, o1, o2, o3, o4, o5, o6, o7⟩, ⟨v0, v1⟩, _⟩ := KV.out w9 HB9.out)
        | (go_at_call 19; refine (HSM.out _ _ _ (KV.out _ HB9.out).2.2.2 HI9.out).mono ?_; rintro e w10 ⟨rfl, n10, rfl⟩))
      all_goals
        go_wp2_with fail
        go_roundw
        case rel => exact ⟨bl_dnC (blCall HTV.out HB9.out), 3, by omega, by go_num⟩
        case measure => simp [intOf]
    · have hix : ∀ W : World, (Instr.index 44 (.agg #[.bool false, .bool false, .bool false, .bool true, .bool true, .bool false, .bool true, .bool true]) (.int .i64 3)).run Try.prog W = .ok (.agg #[.bool true, .bool true]) W := fun _ => by kernel_rfl
      go_upto_region 10 with fail
      clear hix
      generalize hV : wr.alloc _ = V
      have hVB : Below wr.heap.size wr V := by rw [← hV]; exact blA _ _
      have v0 : V.cell? ⟨wr.heap.size, 0, none⟩ = some (.bool true) := by rw [← hV]; exact newC _ _ _ _ _ rfl
      have v1 : V.cell? ⟨wr.heap.size, 1, none⟩ = some (.bool true) := by rw [← hV]; exact newC _ _ _ _ _ rfl
      have hVZ : wr.heap.size < V.heap.size := by rw [← hV]; simp
      have HTV := hid (blCall HB.out hVB)
      have KV : Hid (∀ W, Below V.heap.size V W → OpBox W w7.heap.size ⟨jkind, jrow, jat, jn, jnodes, jslot, jold, jtext⟩ (.slice Ar jrow.length cr) (.slice An jnodes.length cn) ∧ OpBox W (w.heap.size + 1) ⟨kind, jrow, at_, n, jnodes, slot, old, text⟩ (.slice Ar jrow.length cr) (.slice An jnodes.length cn) ∧ (W.cell? ⟨wr.heap.size, 0, none⟩ = some (.bool true) ∧ W.cell? ⟨wr.heap.size, 1, none⟩ = some (.bool true)) ∧ Below w.heap.size w W) := fun W hW => by
        obtain ⟨h1, h2, h3⟩ := KY.out W (blCall HTV.out hW)
        exact ⟨h1, h2, ⟨(hW.cell (p := ⟨wr.heap.size, 0, none⟩) hVZ).trans v0, (hW.cell (p := ⟨wr.heap.size, 1, none⟩) hVZ).trans v1⟩, h3⟩
      clear hV hVB v0 v1 hVZ
      obtain ⟨⟨i0, i1, i2, i3, i4, i5, i6, i7⟩, ⟨o0, o1, o2, o3, o4, o5, o6, o7⟩, ⟨v0, v1⟩, hbw⟩ := KV.out V (Below.refl _ _)
      have HVD : Hid (Below V.heap.size V V.drew) := (Below.refl _ _).drew
      clear hbw
      go_region_held3 (fun w' => w'.cell? ⟨w7.heap.size, 0, none⟩ = some (.int .i64 jkind) ∧ w'.cell? ⟨w7.heap.size, 1, none⟩ = some (.slice Ar jrow.length cr) ∧ w'.cell? ⟨w7.heap.size, 2, none⟩ = some (.int .i64 jat) ∧ w'.cell? ⟨w7.heap.size, 3, none⟩ = some (.int .i64 jn) ∧ w'.cell? ⟨w7.heap.size, 4, none⟩ = some (.slice An jnodes.length cn) ∧ w'.cell? ⟨w7.heap.size, 5, none⟩ = some (.int .i64 jslot) ∧ w'.cell? ⟨w7.heap.size, 6, none⟩ = some (.string jold) ∧ w'.cell? ⟨w7.heap.size, 7, none⟩ = some (.string jtext) ∧ w'.cell? ⟨w.heap.size + 1, 0, none⟩ = some (.int .i64 kind) ∧ w'.cell? ⟨w.heap.size + 1, 1, none⟩ = some (.slice Ar jrow.length cr) ∧ w'.cell? ⟨w.heap.size + 1, 2, none⟩ = some (.int .i64 at_) ∧ w'.cell? ⟨w.heap.size + 1, 3, none⟩ = some (.int .i64 n) ∧ w'.cell? ⟨w.heap.size + 1, 4, none⟩ = some (.slice An jnodes.length cn) ∧ w'.cell? ⟨w.heap.size + 1, 5, none⟩ = some (.int .i64 slot) ∧ w'.cell? ⟨w.heap.size + 1, 6, none⟩ = some (.string old) ∧ w'.cell? ⟨w.heap.size + 1, 7, none⟩ = some (.string text) ∧ w'.cell? ⟨wr.heap.size, 0, none⟩ = some (.bool true) ∧ w'.cell? ⟨wr.heap.size, 1, none⟩ = some (.bool true)) (go_keep) (first
        | (go_at_call 14; (with_reducible refine (HM1.out _ _ (KV.out _ HVD.out).2.2.2).mono ?_); rintro e w8 ⟨v8, rfl, hi8, hb8⟩; obtain ⟨A8, c8, rfl⟩ := hi8.form; have HI8 := hid hi8; have HB8 : Hid (Below V.heap.size V w8) := ofDrew hb8; clear hi8 hb8; obtain ⟨⟨i0, i1, i2, i3, i4, i5, i6, i7⟩, ⟨o0, o1, o2, o3, o4, o5, o6, o7⟩, ⟨v0, v1⟩, _⟩ := KV.out w8 HB8.out)
        | (go_at_call 14; (with_reducible refine (HM2.out _ _ _ _ _ (KV.out _ HB8.out).2.2.2 HI8.out).mono ?_); rintro e w9 ⟨v9, rfl, hi9, hb9⟩; obtain ⟨A9, c9, rfl⟩ := hi9.form; have HI9 := hid hi9; have HB9 := hid (blCall HB8.out hb9); clear hi9 hb9; obtain ⟨⟨i0, i1, i2, i3, i4, i5, i6, i7⟩, ⟨o0, o1, o2, o3, o4, o5, o6, o7⟩, ⟨v0, v1⟩, _⟩ := KV.out w9 HB9.out)
        | (go_at_call 19; refine (HSM.out _ _ _ (KV.out _ HB9.out).2.2.2 HI9.out).mono ?_; rintro e w10 ⟨rfl, n10, rfl⟩))
      all_goals
        go_wp2_with fail
        go_roundw
        case rel => exact ⟨bl_dnC (blCall HTV.out HB9.out), 4, by omega, by go_num⟩
        case measure => simp [intOf]
end Go.Proofs.Yteckkamlaibjbaa
