/- Texts put together: R28a, R28b. -/
import Derived.Test.YtmahiejfniaahaaGreatDoorHC
import Derived.Test.YtmahiejfniaahaaGreatDoorGA
set_option linter.unusedVariables false
set_option linter.unusedSimpArgs false
set_option maxRecDepth 100000
namespace Go.Proofs.YtmahiejfniaahaaGreatDoor
open Go.RowKit
set_option maxHeartbeats 2000000 in
theorem count28_any (b : Bx) : ∀ (Ak As : Option Addr) (ck cs : Nat) (w : World) , BoxesS w (Lt w.heap.size) b.kids (.slice Ak b.kids.length ck) → cntB b ≤ 1000000 → Calls Tryz.prog 83 #[.agg (boxC b.f (.slice Ak b.kids.length ck) (.slice As b.f.src.length cs))] w fun e w' => e = .returned (.int .i64 (cntB b)) ∧ Below w.heap.size w w' := by
  induction b using Bx.ind with
  | h b ih =>
  obtain ⟨f, ks⟩ := b
  intro Ak As ck cs w  hks hc
  simp only [Bx.f, Bx.kids] at *
  have hlen := hks.lens
  unfold maxLen at hlen
  obtain ⟨W0, hW0⟩ : ∃ W0, w.alloc (Obj.cells (boxC f (.slice Ak ks.length ck) (.slice As f.src.length cs)) 28) = W0 := ⟨_, rfl⟩
  have hb0 : Below w.heap.size w W0 := by rw [← hW0]; exact bNew _ _
  have HB0 := hid hb0
  have HC8 : Hid (∀ W, Below W0.heap.size W0 W → W.cell? ⟨w.heap.size, 8, none⟩ = some (.slice Ak ks.length ck)) := fun W hW => by
    have h1 : W0.cell? ⟨w.heap.size, 8, none⟩ = some (.slice Ak ks.length ck) := by rw [← hW0]; exact cNew _ _ _ _ _ rfl
    exact (hW.cell (p := ⟨w.heap.size, 8, none⟩) (by rw [← hW0]; simp)).trans h1
  have HKID : Hid (∀ k (hk : k < ks.length), ∃ gk ok A' cap' B' c', Ak = some ⟨gk, ok, none⟩ ∧ gk < w.heap.size ∧ Box11 w gk (ok + k * 11) ks[k].f (.slice A' ks[k].kids.length cap') (.slice B' ks[k].f.src.length c') ∧ BoxesS w (Lt w.heap.size) ks[k].kids (.slice A' ks[k].kids.length cap')) := fun k hk => by
    obtain ⟨_, _, rs, hq', _, _, hrd, hls⟩ := hks
    cases hq'
    obtain ⟨g, o, A', c', vs, e, h1, h2, h3, h4, h5⟩ := boxes_at hrd hls hk
    obtain ⟨B', c'', rfl⟩ := h4.form
    exact ⟨g, o, A', c', B', c'', e, h1, h2, h5⟩
  have HCN : Hid (∀ k (hk : k < ks.length), cntB ks[k] ≤ 1000000 ∧ (cntsB (ks.take k) + cntB ks[k] ≤ 1000000)) := fun k hk => by
    have h1 := cntsB_take ks hk
    have h2 := cntsB_le ks (k + 1)
    rw [cntB] at hc
    omega
  clear hc
  have h8 := HC8.out W0 (Below.refl _ _)
  clear hks hb0
  go_enter Tryz.func83, Tryz.ntmps83
  go_wp2_with fail
  clear hW0 h8
  go_loopw [3, 4] (fun n i wr => Below W0.heap.size W0 wr ∧ ∃ k : Nat, k ≤ ks.length ∧ i = .int .i64 k ∧ n = .int .i64 (1 + cntsB (ks.take k) : Nat)) (fun _ i _ => ks.length - (intOf i).toNat)
  case atStart => exact ⟨Below.refl _ _, 0, Nat.zero_le _, rfl, by simp [cntsB]⟩
  case round =>
    obtain ⟨hb, k, hk, rfl, hrest⟩ := hrel
    have HT := hid hb
    have h8 := HC8.out wr hb
    clear hb
    rcases Nat.lt_or_ge k ks.length with hlt | hge
    · obtain ⟨gk, ok, Ak', ck', Bk, ckk, hAk, hgk, h11, hkk⟩ := HKID.out k hlt
      subst hAk
      have hbw := HB0.out.trans (HT.out.mono HB0.out.size)
      obtain ⟨c0, c1, c2, c3, c4, c5, c6, c7, c8, c9, c10⟩ := h11.keep (fun j => hbw.cell (p := ⟨gk, j, none⟩) hgk)
      have hkk' := hkk.below hbw hbw.size
      have i5 : decide ((k : Int) < (ks.length : Int)) = true := by rw [decide_eq_true_eq]; omega
      have i6 : (0 : Int) ≤ (k : Int) := by omega
      have i7 : (k : Int) < (ks.length : Int) := by omega
      clear h11 hkk hgk
      obtain rfl := hrest
      have CI := hid (ih _ (List.getElem_mem hlt) Ak' Bk ck' ckk wr hkk' (HCN.out k hlt).1)
      have HT1 := hid (cntsB_take ks hlt)
      have hbd := (HCN.out k hlt).2
      clear hkk' hbw
      go_wp2_with fail
      refine CI.out.mono ?_
      rintro e w1 ⟨rfl, hb1⟩
      have HT2 := hid (bCl HT.out hb1)
      clear hb1 h8 c0 c1 c2 c3 c4 c5 c6 c7 c8 c9 c10
      go_wp2_with fail
      go_roundw
      case rel => exact ⟨HT2.out, k + 1, by omega, by go_num, by rw [HT1.out]; go_num⟩
      case measure => simp [intOf]; omega
    · have i5 : decide ((k : Int) < (ks.length : Int)) = false := by rw [decide_eq_false_iff_not]; omega
      obtain rfl := hrest
      have HE : Hid (cntB (.mk f ks) = 1 + cntsB (ks.take k)) := by show _ = _; rw [List.take_of_length_le hge, cntB]
      go_wp2_with fail
      go_ret
      exact ⟨by rw [HE.out]; rfl, HB0.out.trans (HT.out.mono HB0.out.size)⟩
theorem nestsB_take (ks : List Bx) {k : Nat} (hk : k < ks.length) : nestsB (ks.take (k + 1)) = max (nestsB (ks.take k)) (nestB ks[k]) := by
  rw [List.take_succ_eq_append_getElem hk]
  generalize ks[k] = x
  induction ks.take k with
  | nil => simp [nestsB]
  | cons a l ih => rw [List.cons_append, nestsB, nestsB, ih]; omega
mutual
theorem nest_cnt : (b : Bx) → nestB b ≤ cntB b
  | .mk f ks => by rw [nestB, cntB]; have := nests_cnt ks; omega
theorem nests_cnt : (ks : List Bx) → nestsB ks ≤ cntsB ks
  | [] => by simp [nestsB, cntsB]
  | k :: ks => by rw [nestsB, cntsB]; have := nest_cnt k; have := nests_cnt ks; omega
end
set_option maxHeartbeats 2000000 in
theorem nested28_any (b : Bx) : ∀ (Ak As : Option Addr) (ck cs : Nat) (w : World) , BoxesS w (Lt w.heap.size) b.kids (.slice Ak b.kids.length ck) → cntB b ≤ 1000000 → Calls Tryz.prog 84 #[.agg (boxC b.f (.slice Ak b.kids.length ck) (.slice As b.f.src.length cs))] w fun e w' => e = .returned (.int .i64 (nestB b)) ∧ Below w.heap.size w w' := by
  induction b using Bx.ind with
  | h b ih =>
  obtain ⟨f, ks⟩ := b
  intro Ak As ck cs w  hks hc
  simp only [Bx.f, Bx.kids] at *
  have hlen := hks.lens
  unfold maxLen at hlen
  obtain ⟨W0, hW0⟩ : ∃ W0, w.alloc (Obj.cells (boxC f (.slice Ak ks.length ck) (.slice As f.src.length cs)) 28) = W0 := ⟨_, rfl⟩
  have hb0 : Below w.heap.size w W0 := by rw [← hW0]; exact bNew _ _
  have HB0 := hid hb0
  have HC8 : Hid (∀ W, Below W0.heap.size W0 W → W.cell? ⟨w.heap.size, 8, none⟩ = some (.slice Ak ks.length ck)) := fun W hW => by
    have h1 : W0.cell? ⟨w.heap.size, 8, none⟩ = some (.slice Ak ks.length ck) := by rw [← hW0]; exact cNew _ _ _ _ _ rfl
    exact (hW.cell (p := ⟨w.heap.size, 8, none⟩) (by rw [← hW0]; simp)).trans h1
  have HKID : Hid (∀ k (hk : k < ks.length), ∃ gk ok A' cap' B' c', Ak = some ⟨gk, ok, none⟩ ∧ gk < w.heap.size ∧ Box11 w gk (ok + k * 11) ks[k].f (.slice A' ks[k].kids.length cap') (.slice B' ks[k].f.src.length c') ∧ BoxesS w (Lt w.heap.size) ks[k].kids (.slice A' ks[k].kids.length cap')) := fun k hk => by
    obtain ⟨_, _, rs, hq', _, _, hrd, hls⟩ := hks
    cases hq'
    obtain ⟨g, o, A', c', vs, e, h1, h2, h3, h4, h5⟩ := boxes_at hrd hls hk
    obtain ⟨B', c'', rfl⟩ := h4.form
    exact ⟨g, o, A', c', B', c'', e, h1, h2, h5⟩
  have HCN : Hid (∀ k (hk : k < ks.length), cntB ks[k] ≤ 1000000 ∧ (nestsB (ks.take k) ≤ 1000000 ∧ nestB ks[k] ≤ 1000000)) := fun k hk => by
    have h1 := cntsB_take ks hk
    have h2 := cntsB_le ks (k + 1)
    have h3 := nests_cnt (ks.take k)
    have h4 := nest_cnt ks[k]
    rw [cntB] at hc
    omega
  have HCE : Hid (∀ k, nestsB (ks.take k) ≤ 1000000) := fun k => by
    have h2 := cntsB_le ks k
    have h3 := nests_cnt (ks.take k)
    rw [cntB] at hc
    omega
  clear hc
  have h8 := HC8.out W0 (Below.refl _ _)
  clear hks hb0
  go_enter Tryz.func84, Tryz.ntmps84
  go_wp2_with fail
  clear hW0 h8
  go_loopw [3, 4] (fun n i wr => Below W0.heap.size W0 wr ∧ ∃ k : Nat, k ≤ ks.length ∧ i = .int .i64 k ∧ n = .int .i64 (nestsB (ks.take k) : Nat)) (fun _ i _ => ks.length - (intOf i).toNat)
  case atStart => exact ⟨Below.refl _ _, 0, Nat.zero_le _, rfl, by simp [nestsB]⟩
  case round =>
    obtain ⟨hb, k, hk, rfl, hrest⟩ := hrel
    have HT := hid hb
    have h8 := HC8.out wr hb
    clear hb
    rcases Nat.lt_or_ge k ks.length with hlt | hge
    · obtain ⟨gk, ok, Ak', ck', Bk, ckk, hAk, hgk, h11, hkk⟩ := HKID.out k hlt
      subst hAk
      have hbw := HB0.out.trans (HT.out.mono HB0.out.size)
      obtain ⟨c0, c1, c2, c3, c4, c5, c6, c7, c8, c9, c10⟩ := h11.keep (fun j => hbw.cell (p := ⟨gk, j, none⟩) hgk)
      have hkk' := hkk.below hbw hbw.size
      have i5 : decide ((k : Int) < (ks.length : Int)) = true := by rw [decide_eq_true_eq]; omega
      have i6 : (0 : Int) ≤ (k : Int) := by omega
      have i7 : (k : Int) < (ks.length : Int) := by omega
      clear h11 hkk hgk
      obtain rfl := hrest
      have CI := hid (ih _ (List.getElem_mem hlt) Ak' Bk ck' ckk wr hkk' (HCN.out k hlt).1)
      have HT1 := hid (nestsB_take ks hlt)
      have hbd := (HCN.out k hlt).2
      clear hkk' hbw
      go_wp2_with fail
      refine CI.out.mono ?_
      rintro e w1 ⟨rfl, hb1⟩
      have HT2 := hid (bCl HT.out hb1)
      clear hb1 h8 c0 c1 c2 c3 c4 c5 c6 c7 c8 c9 c10
      rcases Nat.lt_or_ge (nestsB (ks.take k)) (nestB ks[k]) with hd | hd
      · have HM : Hid (max (nestsB (ks.take k)) (nestB ks[k]) = nestB ks[k]) := by show _ = _; omega
        go_wp2_with fail
        go_roundw
        case rel => exact ⟨HT2.out, k + 1, by omega, by go_num, by have := HM.out; rw [HT1.out]; congr 1; omega⟩
        case measure => simp [intOf]; omega
      · have HM : Hid (max (nestsB (ks.take k)) (nestB ks[k]) = nestsB (ks.take k)) := by show _ = _; omega
        go_wp2_with fail
        go_roundw
        case rel => exact ⟨HT2.out, k + 1, by omega, by go_num, by have := HM.out; rw [HT1.out]; congr 1; omega⟩
        case measure => simp [intOf]; omega
    · have i5 : decide ((k : Int) < (ks.length : Int)) = false := by rw [decide_eq_false_iff_not]; omega
      obtain rfl := hrest
      have HE : Hid (nestB (.mk f ks) = nestsB (ks.take k) + 1) := by show _ = _; rw [List.take_of_length_le hge, nestB]
      have hbd := HCE.out k
      go_wp2_with fail
      go_ret
      exact ⟨by rw [HE.out]; first | rfl | (simp; done), HB0.out.trans (HT.out.mono HB0.out.size)⟩
mutual
def sizeB : Bx → Int → Int
  | .mk _ ks, m => sizesB ks 1 m
def sizesB : List Bx → Int → Int → Int
  | [], n, _ => n
  | k :: ks, n, m => if n < m then sizesB ks (n + sizeB k (m - n)) m else n
end
mutual
theorem sizeB_spec : (b : Bx) → (m : Int) → 1 ≤ sizeB b m ∧ sizeB b m ≤ max 1 m ∧ (sizeB b m < m → sizeB b m = cntB b) ∧ (m ≤ sizeB b m → 1 ≤ m → m ≤ cntB b)
  | .mk f ks, m => by
    rw [sizeB, cntB]
    obtain ⟨h1, h2, h3, h4⟩ := sizesB_spec ks 1 m (by omega)
    refine ⟨h1, h2, fun h => by have := h3 h; omega, fun h5 h6 => ?_⟩
    have := h4 h5
    omega
theorem sizesB_spec : (ks : List Bx) → (n m : Int) → 1 ≤ n → n ≤ sizesB ks n m ∧ sizesB ks n m ≤ max n m ∧ (sizesB ks n m < m → sizesB ks n m = n + cntsB ks) ∧ (m ≤ sizesB ks n m → m ≤ n + cntsB ks)
  | [], n, m, hn => by rw [sizesB, cntsB]; exact ⟨by omega, by omega, fun _ => by omega, fun _ => by omega⟩
  | k :: ks, n, m, hn => by
    rw [sizesB, cntsB]
    split
    · rename_i h
      obtain ⟨a1, a2, a3, a4⟩ := sizeB_spec k (m - n)
      obtain ⟨b1, b2, b3, b4⟩ := sizesB_spec ks (n + sizeB k (m - n)) m (by omega)
      refine ⟨by omega, by omega, fun h5 => ?_, fun h5 => ?_⟩
      · have := b3 h5
        have := a3 (by omega)
        omega
      · have := b4 h5
        by_cases h6 : sizeB k (m - n) < m - n
        · have := a3 h6
          omega
        · have := a4 (by omega) (by omega)
          omega
    · rename_i h
      exact ⟨by omega, by omega, fun h5 => by omega, fun h5 => by omega⟩
end
theorem sizesB_drop (ks : List Bx) (n m : Int) {k : Nat} (hk : k < ks.length) : sizesB (ks.drop k) n m = if n < m then sizesB (ks.drop (k + 1)) (n + sizeB ks[k] (m - n)) m else n := by
  rw [List.drop_eq_getElem_cons hk, sizesB]
set_option maxHeartbeats 2000000 in
theorem size28_any (b : Bx) : ∀ (Ak As : Option Addr) (ck cs : Nat) (w : World) (m : Int), BoxesS w (Lt w.heap.size) b.kids (.slice Ak b.kids.length ck) → 1 ≤ m → m ≤ 1000000 → Calls Tryz.prog 56 #[.agg (boxC b.f (.slice Ak b.kids.length ck) (.slice As b.f.src.length cs)), .int .i64 m] w fun e w' => e = .returned (.int .i64 (sizeB b m)) ∧ Below w.heap.size w w' := by
  induction b using Bx.ind with
  | h b ih =>
  obtain ⟨f, ks⟩ := b
  intro Ak As ck cs w m hks h1 h2
  simp only [Bx.f, Bx.kids] at *
  have hlen := hks.lens
  unfold maxLen at hlen
  obtain ⟨W0, hW0⟩ : ∃ W0, w.alloc (Obj.cells (boxC f (.slice Ak ks.length ck) (.slice As f.src.length cs)) 28) = W0 := ⟨_, rfl⟩
  have hb0 : Below w.heap.size w W0 := by rw [← hW0]; exact bNew _ _
  have HB0 := hid hb0
  have HC8 : Hid (∀ W, Below W0.heap.size W0 W → W.cell? ⟨w.heap.size, 8, none⟩ = some (.slice Ak ks.length ck)) := fun W hW => by
    have h1 : W0.cell? ⟨w.heap.size, 8, none⟩ = some (.slice Ak ks.length ck) := by rw [← hW0]; exact cNew _ _ _ _ _ rfl
    exact (hW.cell (p := ⟨w.heap.size, 8, none⟩) (by rw [← hW0]; simp)).trans h1
  have HKID : Hid (∀ k (hk : k < ks.length), ∃ gk ok A' cap' B' c', Ak = some ⟨gk, ok, none⟩ ∧ gk < w.heap.size ∧ Box11 w gk (ok + k * 11) ks[k].f (.slice A' ks[k].kids.length cap') (.slice B' ks[k].f.src.length c') ∧ BoxesS w (Lt w.heap.size) ks[k].kids (.slice A' ks[k].kids.length cap')) := fun k hk => by
    obtain ⟨_, _, rs, hq', _, _, hrd, hls⟩ := hks
    cases hq'
    obtain ⟨g, o, A', c', vs, e, h1, h2, h3, h4, h5⟩ := boxes_at hrd hls hk
    obtain ⟨B', c'', rfl⟩ := h4.form
    exact ⟨g, o, A', c', B', c'', e, h1, h2, h5⟩
  have h8 := HC8.out W0 (Below.refl _ _)
  clear hks hb0
  go_enter Tryz.func56, Tryz.ntmps56
  go_wp2_with fail
  clear hW0 h8
  go_loopw [5, 6] (fun n i wr => Below W0.heap.size W0 wr ∧ ∃ k : Nat, k ≤ ks.length ∧ i = .int .i64 k ∧ ∃ z : Int, n = .int .i64 z ∧ 1 ≤ z ∧ z ≤ m ∧ sizesB (ks.drop k) z m = sizesB ks 1 m) (fun _ i _ => ks.length - (intOf i).toNat)
  case atStart => exact ⟨Below.refl _ _, 0, Nat.zero_le _, rfl, 1, rfl, by omega, by omega, rfl⟩
  case round =>
    obtain ⟨hb, k, hk, rfl, hrest⟩ := hrel
    have HT := hid hb
    have h8 := HC8.out wr hb
    clear hb
    rcases Nat.lt_or_ge k ks.length with hlt | hge
    · obtain ⟨gk, ok, Ak', ck', Bk, ckk, hAk, hgk, h11, hkk⟩ := HKID.out k hlt
      subst hAk
      have hbw := HB0.out.trans (HT.out.mono HB0.out.size)
      obtain ⟨c0, c1, c2, c3, c4, c5, c6, c7, c8, c9, c10⟩ := h11.keep (fun j => hbw.cell (p := ⟨gk, j, none⟩) hgk)
      have hkk' := hkk.below hbw hbw.size
      have i5 : decide ((k : Int) < (ks.length : Int)) = true := by rw [decide_eq_true_eq]; omega
      have i6 : (0 : Int) ≤ (k : Int) := by omega
      have i7 : (k : Int) < (ks.length : Int) := by omega
      clear h11 hkk hgk
      obtain ⟨z, rfl, hz1, hz2, hzr⟩ := hrest
      by_cases hzm : z < m
      · have j1 : decide (z < m) = true := decide_eq_true hzm
        have CI := hid (ih _ (List.getElem_mem hlt) Ak' Bk ck' ckk wr (m - z) hkk' (by omega) (by omega))
        have hbd := sizeB_spec ks[k] (m - z)
        have HD : Hid (sizesB (ks.drop (k + 1)) (z + sizeB ks[k] (m - z)) m = sizesB ks 1 m) := by show _ = _; rw [← hzr, sizesB_drop ks z m hlt, if_pos hzm]
        obtain ⟨y, hy⟩ : ∃ y, sizeB ks[k] (m - z) = y := ⟨_, rfl⟩
        rw [hy] at CI HD hbd
        obtain ⟨hy1, hy2, _, _⟩ := hbd
        have v1 : IntKind.i64.wrap (m - z) = m - z := IntWalk.i64_in _ (by omega)
        have v2 : IntKind.i64.wrap (z + y) = z + y := IntWalk.i64_in _ (by omega)
        clear hkk' hbw hzr hy
        go_wp2_with fail
        refine CI.out.mono ?_
        rintro e w1 ⟨rfl, hb1⟩
        have HT2 := hid (bCl HT.out hb1)
        clear hb1 h8 c0 c1 c2 c3 c4 c5 c6 c7 c8 c9 c10
        go_wp2_with fail
        go_roundw
        case rel => exact ⟨HT2.out, k + 1, by omega, by go_num, z + y, rfl, by omega, by omega, HD.out⟩
        case measure => simp [intOf]; omega
      · have j1 : decide (z < m) = false := decide_eq_false hzm
        have HE : Hid (sizeB (.mk f ks) m = z) := by show _ = _; rw [sizeB, ← hzr, sizesB_drop ks z m hlt, if_neg hzm]
        clear hkk' hbw hzr
        go_wp2_with fail
        go_ret
        exact ⟨by rw [HE.out]; rfl, HB0.out.trans (HT.out.mono HB0.out.size)⟩
    · have i5 : decide ((k : Int) < (ks.length : Int)) = false := by rw [decide_eq_false_iff_not]; omega
      obtain ⟨z, rfl, hz1, hz2, hzr⟩ := hrest
      have HE : Hid (sizeB (.mk f ks) m = z) := by show _ = _; rw [sizeB, ← hzr, List.drop_of_length_le hge, sizesB]
      clear hzr
      go_wp2_with fail
      go_ret
      exact ⟨by rw [HE.out]; rfl, HB0.out.trans (HT.out.mono HB0.out.size)⟩
def fewB (b : Bx) (m : Int) : Bool := decide (sizeB b (m + 1) ≤ m)
theorem fewB_cnt {b : Bx} {m : Int} (h0 : 0 ≤ m) (h : fewB b m = true) : (cntB b : Int) ≤ m := by
  have h1 := of_decide_eq_true h
  have h2 := (sizeB_spec b (m + 1)).2.2.1 (by omega)
  omega
set_option maxHeartbeats 1000000 in
theorem few28_any (b : Bx) (Ak As : Option Addr) (ck cs : Nat) (w : World) (m : Int) (hks : BoxesS w (Lt w.heap.size) b.kids (.slice Ak b.kids.length ck)) (h1 : 0 ≤ m) (h2 : m ≤ 900000) :
    Calls Tryz.prog 28 #[.agg (boxC b.f (.slice Ak b.kids.length ck) (.slice As b.f.src.length cs)), .int .i64 m] w fun e w' => e = .returned (.bool (fewB b m)) ∧ Below w.heap.size w w' := by
  have hb0 : Below w.heap.size w (w.alloc (Obj.cells (boxC b.f (.slice Ak b.kids.length ck) (.slice As b.f.src.length cs)) 28)) := bNew _ _
  have CS := hid (size28_any b Ak As ck cs _ (m + 1) (hks.below hb0 hb0.size) (by omega) (by omega))
  have HB0 := hid hb0
  have HF : Hid (fewB b m = decide (sizeB b (m + 1) ≤ m)) := rfl
  have hsz := sizeB_spec b (m + 1)
  generalize sizeB b (m + 1) = z at *
  obtain ⟨f, ks⟩ := b
  simp only [Bx.f, Bx.kids] at *
  clear hks hb0 hsz
  go_enter Tryz.func28, Tryz.ntmps28
  go_wp2_with fail
  refine CS.out.mono ?_
  rintro e w1 ⟨rfl, hb1⟩
  have HB1 := hid (bCl HB0.out (hb1.mono (Nat.le_refl _)))
  clear hb1
  go_wp2_with fail
  go_ret
  exact ⟨by rw [HF.out]; rfl, HB1.out⟩
end Go.Proofs.YtmahiejfniaahaaGreatDoor
set_option linter.unusedVariables false
set_option linter.unusedSimpArgs false
set_option maxRecDepth 100000
namespace Go.Proofs.YtmahiejfniaahaaGreatDoor
open Go.RowKit
set_option maxHeartbeats 400000 in
theorem rname_q (s : ByteArray) (w : World) (hs : s.size ≤ maxLen) :
    Calls Tryz.prog 108 #[.string s] w fun e w' => e = .returned (.bool (nameOk s)) ∧ w = w' := by
  unfold maxLen at hs
  go_enter Tryz.func108, Tryz.ntmps108
  go_wp2
  go_loop [3] (fun i => ∃ k : Nat, k ≤ s.size ∧ i = .int .i64 k ∧ printableS ((bytes s).drop k) = printableS (bytes s)) (fun i => s.size - (intOf i).toNat)
  case atStart => exact ⟨0, Nat.zero_le _, rfl, rfl⟩
  case round =>
    obtain ⟨k, hk, rfl, hrest⟩ := hrel
    have HR := hid hrest
    clear hrest
    by_cases hlt : k < s.size
    · have HN := hid (bytes_drop s k hlt)
      by_cases h1 : (s[k].toNat : Int) < 32
      · have HF : Hid (nameOk s = false) := by show _ = _; rw [nameOk, ← HR.out, HN.out, printableS, List.all_cons, decide_eq_false (show ¬ (32 ≤ (s[k].toNat : Int) ∧ (s[k].toNat : Int) ≤ 126) by omega)]; simp
        go_wp2
        go_ret
        exact ⟨by rw [HF.out]; rfl, rfl⟩
      · have d1 : decide ((s[k].toNat : Int) < 32) = false := by simpa using h1
        by_cases h2 : 126 < (s[k].toNat : Int)
        · have HF : Hid (nameOk s = false) := by show _ = _; rw [nameOk, ← HR.out, HN.out, printableS, List.all_cons, decide_eq_false (show ¬ (32 ≤ (s[k].toNat : Int) ∧ (s[k].toNat : Int) ≤ 126) by omega)]; simp
          go_wp2
          go_ret
          exact ⟨by rw [HF.out]; rfl, rfl⟩
        · have d2 : decide (126 < (s[k].toNat : Int)) = false := by simpa using h2
          have HF : Hid (printableS ((bytes s).drop (k + 1)) = printableS (bytes s)) := by show _ = _; rw [← HR.out, HN.out, printableS, printableS, List.all_cons, decide_eq_true (show 32 ≤ (s[k].toNat : Int) ∧ (s[k].toNat : Int) ≤ 126 by omega)]; rfl
          go_wp2
          go_round
          case rel => exact ⟨k + 1, by omega, by go_num, HF.out⟩
          case measure => simp [intOf]; omega
    · have HP : Hid (printableS (bytes s) = true) := by show _ = _; rw [← HR.out, bytes_drop_end s k hlt]; rfl
      by_cases h4 : 1 ≤ s.size
      · have d4 : decide ((1 : Int) ≤ (s.size : Int)) = true := by simp; omega
        by_cases h3 : s.size ≤ 16
        · have HF : Hid (nameOk s = true) := by show _ = _; rw [nameOk, HP.out, decide_eq_true ⟨h4, h3⟩]; rfl
          have d3 : decide ((s.size : Int) ≤ 16) = true := by simp; omega
          go_wp2
          go_ret
          exact ⟨by rw [HF.out]; rfl, rfl⟩
        · have HF : Hid (nameOk s = false) := by show _ = _; rw [nameOk, HP.out, decide_eq_false (by omega)]; rfl
          have d3 : decide ((s.size : Int) ≤ 16) = false := by simp; omega
          go_wp2
          go_ret
          exact ⟨by rw [HF.out]; rfl, rfl⟩
      · have HF : Hid (nameOk s = false) := by show _ = _; rw [nameOk, HP.out, decide_eq_false (by omega)]; rfl
        have d4 : decide ((1 : Int) ≤ (s.size : Int)) = false := by simp; omega
        go_wp2
        go_ret
        exact ⟨by rw [HF.out]; rfl, rfl⟩
set_option maxHeartbeats 2000000 in
theorem rsource_any (f : BxF) (ks : Nat) (Ak As : Option Addr) (ck cs : Nat) (w : World) (hsrc : IntsR w (Lt w.heap.size) f.src (.slice As f.src.length cs)) :
    Calls Tryz.prog 109 #[.agg (boxC f (.slice Ak ks ck) (.slice As f.src.length cs))] w fun e w' => e = .returned (.bool (srcOk f)) ∧ Below w.heap.size w w' := by
  obtain ⟨w0, hW0⟩ : ∃ W0, w.alloc (Obj.cells (boxC f (.slice Ak ks ck) (.slice As f.src.length cs)) 28) = W0 := ⟨_, rfl⟩
  have hb0 : Below w.heap.size w w0 := by rw [← hW0]; exact bNew _ _
  have HB0 := hid hb0
  have hsrc := hsrc.below hb0 hb0.size
  have c9 : w0.cell? ⟨w.heap.size, 9, none⟩ = some (.int .i64 f.of_) := by rw [← hW0]; exact cNew _ _ _ _ _ rfl
  have c10 : w0.cell? ⟨w.heap.size, 10, none⟩ = some (.slice As f.src.length cs) := by rw [← hW0]; exact cNew _ _ _ _ _ rfl
  have hm := hsrc.lens
  unfold maxLen at hm
  obtain ⟨A', cap', rs, e, h1, h2, hrd, hls⟩ := hsrc
  cases e
  have HSO : Hid (srcOk f = (f.src.all (fun i => decide (0 ≤ i)) && (if f.of_ = 0 then decide (f.src.length = 0) else if f.of_ = 1 then decide (f.src.length % 2 = 0 ∧ f.src.length ≤ 48) else if f.of_ = 2 then decide (f.src.length % 2 = 1 ∧ f.src.length ≤ 49) else false))) := rfl
  have HAT : Hid (∀ k (hk : k < f.src.length), ∃ g1 o1, As = some ⟨g1, o1, none⟩ ∧ w0.cell? ⟨g1, o1 + k, none⟩ = some (.int .i64 f.src[k])) := fun k hk => by
    obtain ⟨g1, o1, e, _, _, hc⟩ := ints_at hrd hls hk
    exact ⟨g1, o1, e, hc⟩
  generalize srcOk f = R at *
  obtain ⟨kind, name, size, bw, bh, bd, bx, by_, of_, src⟩ := f
  simp only [boxC] at *
  generalize of_ = q at *
  clear hrd hls h1 h2 hb0
  go_enter Tryz.func109, Tryz.ntmps109
  go_wp2_with fail
  go_loop [3] (fun i => ∃ k : Nat, k ≤ src.length ∧ i = .int .i64 k ∧ (src.drop k).all (fun i => decide (0 ≤ i)) = src.all (fun i => decide (0 ≤ i))) (fun i => src.length - (intOf i).toNat)
  case atStart => exact ⟨0, Nat.zero_le _, rfl, rfl⟩
  case round =>
    obtain ⟨k, hk, rfl, hrest⟩ := hrel
    have HR := hid hrest
    clear hrest
    rcases Nat.lt_or_ge k src.length with hlt | hge
    · obtain ⟨g1, o1, rfl, hc⟩ := HAT.out k hlt
      have HD : Hid ((src.drop k).all (fun i => decide (0 ≤ i)) = (decide (0 ≤ src[k]) && (src.drop (k + 1)).all (fun i => decide (0 ≤ i)))) := by show _ = _; rw [List.drop_eq_getElem_cons hlt, List.all_cons]
      have i0 : decide ((k : Int) < (src.length : Int)) = true := by rw [decide_eq_true_eq]; omega
      have i6 : (0 : Int) ≤ (k : Int) := by omega
      have i7 : (k : Int) < (src.length : Int) := by omega
      generalize src[k] = x at *
      by_cases hx : x < 0
      · have HF : Hid (R = false) := by show _ = _; rw [HSO.out, ← HR.out, HD.out, decide_eq_false (by omega)]; rfl
        have d0 : decide (x < 0) = true := by simpa using hx
        go_wp2_with fail
        go_ret
        exact ⟨by rw [HF.out]; rfl, HB0.out⟩
      · have d0 : decide (x < 0) = false := by simpa using hx
        have HF : Hid ((src.drop (k + 1)).all (fun i => decide (0 ≤ i)) = src.all (fun i => decide (0 ≤ i))) := by show _ = _; rw [← HR.out, HD.out, decide_eq_true (show 0 ≤ x by omega), Bool.true_and]
        go_wp2_with fail
        go_round
        case rel => exact ⟨k + 1, by omega, by go_num, HF.out⟩
        case measure => simp [intOf]; omega
    · have i0 : decide ((k : Int) < (src.length : Int)) = false := by rw [decide_eq_false_iff_not]; omega
      have HP : Hid (src.all (fun i => decide (0 ≤ i)) = true) := by show _ = _; rw [← HR.out, List.drop_of_length_le hge]; rfl
      have HSO2 : Hid (R = (if q = 0 then decide (src.length = 0) else if q = 1 then decide (src.length % 2 = 0 ∧ src.length ≤ 48) else if q = 2 then decide (src.length % 2 = 1 ∧ src.length ≤ 49) else false)) := by show _ = _; rw [HSO.out, HP.out, Bool.true_and]
      clear HSO HAT HP HR
      generalize src.length = n at *
      by_cases q0 : q = 0
      · subst q0
        by_cases hn : n = 0
        · have HF : Hid (R = true) := by show _ = _; rw [HSO2.out]; simp [hn]
          have d1 : ((n : Int) == 0) = true := by simp; omega
          go_wp2_with fail
          go_ret
          exact ⟨by rw [HF.out]; rfl, HB0.out⟩
        · have HF : Hid (R = false) := by show _ = _; rw [HSO2.out]; simp [hn]
          have d1 : ((n : Int) == 0) = false := by simp; omega
          go_wp2_with fail
          go_ret
          exact ⟨by rw [HF.out]; rfl, HB0.out⟩
      have i1 : (q == 0) = false := by simpa using q0
      by_cases q1 : q = 1
      · subst q1
        by_cases hn : n % 2 = 0
        · have d1 : ((n : Int) % 2 == 0) = true := by simp; omega
          by_cases hl : n ≤ 48
          · have HF : Hid (R = true) := by show _ = _; rw [HSO2.out]; simp [hn, hl]
            have d2 : decide ((n : Int) ≤ 48) = true := by simp; omega
            go_wp2_with fail
            go_ret
            exact ⟨by rw [HF.out]; rfl, HB0.out⟩
          · have HF : Hid (R = false) := by show _ = _; rw [HSO2.out]; simp [hn, hl]
            have d2 : decide ((n : Int) ≤ 48) = false := by simp; omega
            go_wp2_with fail
            go_ret
            exact ⟨by rw [HF.out]; rfl, HB0.out⟩
        · have d1 : ((n : Int) % 2 == 0) = false := by simp; omega
          have HF : Hid (R = false) := by show _ = _; rw [HSO2.out]; simp [hn]
          go_wp2_with fail
          go_ret
          exact ⟨by rw [HF.out]; rfl, HB0.out⟩
      have i2 : (q == 1) = false := by simpa using q1
      by_cases q2 : q = 2
      · subst q2
        by_cases hn : n % 2 = 1
        · have d1 : ((n : Int) % 2 == 1) = true := by simp; omega
          by_cases hl : n ≤ 49
          · have HF : Hid (R = true) := by show _ = _; rw [HSO2.out]; simp [hn, hl]
            have d2 : decide ((n : Int) ≤ 49) = true := by simp; omega
            go_wp2_with fail
            go_ret
            exact ⟨by rw [HF.out]; rfl, HB0.out⟩
          · have HF : Hid (R = false) := by show _ = _; rw [HSO2.out]; simp [hn, hl]
            have d2 : decide ((n : Int) ≤ 49) = false := by simp; omega
            go_wp2_with fail
            go_ret
            exact ⟨by rw [HF.out]; rfl, HB0.out⟩
        · have d1 : ((n : Int) % 2 == 1) = false := by simp; omega
          have HF : Hid (R = false) := by show _ = _; rw [HSO2.out]; simp [hn]
          go_wp2_with fail
          go_ret
          exact ⟨by rw [HF.out]; rfl, HB0.out⟩
      have i3 : (q == 2) = false := by simpa using q2
      have HF : Hid (R = false) := by show _ = _; rw [HSO2.out]; simp [q0, q1, q2]
      go_wp2_with fail
      go_ret
      exact ⟨by rw [HF.out]; rfl, HB0.out⟩
end Go.Proofs.YtmahiejfniaahaaGreatDoor
