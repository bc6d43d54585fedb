/- vinculumlaw10.PositionComplete: the walk. -/
import Derived.Test.YtognlokeadlpbaaPos8
import Derived.Test.YtognlokeadlpbaaCnt10
import Derived.Test.YtognlokeadlpbaaSel3
import Derived.Deep.RegionHeld3
import Derived.IntWalk
set_option linter.unusedVariables false
set_option linter.unusedSimpArgs false
set_option maxRecDepth 100000
namespace Go.Proofs.Ytognlokeadlpbaa
open Go.RowKit

/-- Element k of rows that a call has made: its cell, its reading, in every later world. -/
theorem row_later {w' : World} {L : List (List Int)} {A : Option Addr} {c B : Nat} (h : OwnRows w' B L (.slice A L.length c)) {k : Nat} (hk : k < L.length) :
    ∃ g o A1 c1, A = some ⟨g, o, none⟩ ∧ ∀ W, Below w'.heap.size w' W → W.cell? ⟨g, o + k, none⟩ = some (.slice A1 L[k].length c1) ∧ IntsR W (Lt W.heap.size) L[k] (.slice A1 L[k].length c1) ∧ g < W.heap.size := by
  obtain ⟨_, _, rs, hq, _, _, hrd, hls⟩ := h.rowsLt
  cases hq
  obtain ⟨g, o, A3, c3, rs3, rfl, hg, q0, h5, h6, h7, h8⟩ := rows_at hrd hls hk
  have hi : IntsR w' (Lt w'.heap.size) L[k] (.slice A3 L[k].length c3) := ⟨_, _, rs3, rfl, h5, h6, h7, h8⟩
  exact ⟨g, o, A3, c3, rfl, fun W hW => ⟨((bcell hW).1 _ _ hg).trans q0, hi.below hW hW.size, Nat.lt_of_lt_of_le hg hW.size⟩⟩

set_option maxHeartbeats 4000000 in
theorem posCom_walk (t : Tree) (A : Option Addr) (cap : Nat) (w : World) (hv : SliceR treeE w (Lt w.heap.size) t.kids (.slice A t.kids.length cap)) (htx : t.text.size ≤ maxLen) :
    Calls Try.prog 11 #[.agg #[.int .i64 t.kind, .string t.text, .int .i64 t.cols, .slice A t.kids.length cap]] w fun e w' => e = .returned (.bool true) ∧ Below w.heap.size w w' := by
  have KB : Hid (∀ W, Below (w.alloc (.cells #[.int .i64 t.kind, .string t.text, .int .i64 t.cols, .slice A t.kids.length cap] 24)).heap.size (w.alloc (.cells #[.int .i64 t.kind, .string t.text, .int .i64 t.cols, .slice A t.kids.length cap] 24)) W →
      (W.cell? ⟨w.heap.size, 0, none⟩ = some (.int .i64 t.kind) ∧ W.cell? ⟨w.heap.size, 1, none⟩ = some (.string t.text) ∧ W.cell? ⟨w.heap.size, 2, none⟩ = some (.int .i64 t.cols) ∧ W.cell? ⟨w.heap.size, 3, none⟩ = some (.slice A t.kids.length cap)) ∧ Below w.heap.size w W ∧ w.heap.size < W.heap.size) := by
    intro W hW
    have hc := (bcell hW).1
    exact ⟨⟨(hc _ _ (by simp)).trans (na_c _ _ _ _ _ rfl), (hc _ _ (by simp)).trans (na_c _ _ _ _ _ rfl), (hc _ _ (by simp)).trans (na_c _ _ _ _ _ rfl), (hc _ _ (by simp)).trans (na_c _ _ _ _ _ rfl)⟩, (below_allocR' _ _).trans (hW.mono (by simp)), by have := hW.size; simp at this; omega⟩
  have CF : Hid (∀ W, Below w.heap.size w W → Calls Try.prog 34 #[.agg #[.int .i64 t.kind, .string t.text, .int .i64 t.cols, .slice A t.kids.length cap], .slice none 0 0] W fun e w' => e = .returned (.bool (few10S t [])) ∧ Below W.heap.size W w') := fun W hW => few10_any t [] A none cap 0 W (hv.below hW hW.size) (by simp)
  cases hfew : few10S t []
  · rw [hfew] at CF
    obtain ⟨tk, tx, tc, ts⟩ := t
    simp only [Tree.kind, Tree.text, Tree.cols, Tree.kids] at *
    clear hv htx hfew
    go_enter Try.func11, Try.ntmps11
    go_wp2_with fail
    refine (awake10_any _).mono ?_
    rintro e w1 ⟨rfl, hb1⟩
    obtain ⟨⟨m0, m1, m2, m3⟩, hbw, hz1⟩ := KB.out w1 hb1
    have HBW := hid hbw
    clear hb1 hbw
    go_wp2_with fail
    refine (CF.out _ HBW.out).mono ?_
    rintro e w3 ⟨rfl, hb3⟩
    have HB3 : Hid (Below w1.heap.size w1 w3) := hid hb3
    clear hb3
    go_wp2_with fail
    refine (awake10_any _).mono ?_
    rintro e w4 ⟨rfl, hb4⟩
    have HB4 := hid (bl_call (bl_call HBW.out HB3.out) hb4)
    clear hb4
    go_wp2_with fail
    go_ret
    exact ⟨rfl, HB4.out⟩
  have hct : countS t ≤ 200 := (few10_count hfew).1
  rw [hfew] at CF
  have C1 : Hid (∀ W, Below w.heap.size w W → Calls Try.prog 39 #[.agg #[.int .i64 t.kind, .string t.text, .int .i64 t.cols, .slice A t.kids.length cap]] W (AllRes W (validS t) (allS [] t))) := fun W h => pall_any t A cap W (hv.below h h.size) htx
  have C2 : Hid (∀ q v W, validS t = true → posIn t q = true → Below w.heap.size w W → IntsR W (Lt W.heap.size) q v → Calls Try.prog 36 #[.agg #[.int .i64 t.kind, .string t.text, .int .i64 t.cols, .slice A t.kids.length cap], v] W fun e w' => e = .returned (.bool true) ∧ Below W.heap.size W w') := fun q v W h1 h2 h hq => by
    have := posValid_any t q A cap v W (hv.below h h.size) htx hq
    rwa [h1, h2] at this
  have C3 : Hid (∀ W, validS t = true → Below w.heap.size w W → Calls Try.prog 38 #[.agg #[.int .i64 t.kind, .string t.text, .int .i64 t.cols, .slice A t.kids.length cap]] W fun e w' => e = .returned (.int .i64 ((allS [] t).length : Int)) ∧ Below W.heap.size W w') := fun W h1 h => by
    have := pcount_any t A cap W (hv.below h h.size) htx
    rwa [countR, h1, if_pos rfl] at this
  have C4 : Hid (∀ W, validS t = true → Below w.heap.size w W → Calls Try.prog 45 #[.agg #[.int .i64 t.kind, .string t.text, .int .i64 t.cols, .slice A t.kids.length cap]] W fun e w' => e = .returned (.int .i64 ((allS [] t).length : Int)) ∧ Below W.heap.size W w') := fun W h1 h => by
    have := rows_any t W A cap (hv.below h h.size) (by omega)
    rwa [rows_cnt t (valid_count h1).2.2.1 (valid_count h1).2.1, ← allS_len [] t] at this
  have CC : Hid (∀ (a b : List Int) (W : World) (S1 S2 : Nat → Prop) (v1 v2 : Value), ltS a b → IntsR W S1 a v1 → IntsR W S2 b v2 → Calls Try.prog 32 #[v1, v2] W fun e w' => e = .returned (.int .i64 (-1)) ∧ W = w') := fun a b W S1 S2 v1 v2 h h1 h2 => by
    have := pcmp_q a b W v1 v2 S1 S2 h1 h2
    have hr := cmpS_range a b
    unfold ltS at h
    rwa [show cmpS a b = -1 by omega] at this
  have HPI : Hid (∀ (k : Nat) (hk : k < (allS [] t).length), posIn t (allS [] t)[k] = true) := fun k hk => mem_all.1 (List.getElem_mem hk)
  have HLT : Hid (∀ (k : Nat) (hk : k + 1 < (allS [] t).length), ltS ((allS [] t)[k]'(Nat.lt_of_succ_lt hk)) (allS [] t)[k + 1]) := fun k hk => List.pairwise_iff_getElem.1 (allS_sorted [] t) k (k + 1) _ hk (Nat.lt_succ_self k)
  have hle := allS_le t (by omega)
  cases hvv : validS t
  · rw [hvv] at C1
    generalize allS [] t = L at *
    obtain ⟨tk, tx, tc, ts⟩ := t
    simp only [Tree.kind, Tree.text, Tree.cols, Tree.kids] at *
    clear hv htx hfew hct hvv C2 C3 C4 CC HPI HLT
    go_enter Try.func11, Try.ntmps11
    go_wp2_with fail
    refine (awake10_any _).mono ?_
    rintro e w1 ⟨rfl, hb1⟩
    obtain ⟨⟨k0, k1, k2, k3⟩, hbw, hz1⟩ := KB.out w1 hb1
    have HBW := hid hbw
    have KE : Hid (∀ W, Below w1.heap.size w1 W → (W.cell? ⟨w.heap.size, 0, none⟩ = some (.int .i64 tk) ∧ W.cell? ⟨w.heap.size, 1, none⟩ = some (.string tx) ∧ W.cell? ⟨w.heap.size, 2, none⟩ = some (.int .i64 tc) ∧ W.cell? ⟨w.heap.size, 3, none⟩ = some (.slice A ts.length cap)) ∧ Below w.heap.size w W ∧ w.heap.size < W.heap.size) := fun W h => KB.out W (hb1.trans (h.mono hb1.size))
    clear hb1 hbw KB
    go_wp2_with fail
    refine (CF.out _ HBW.out).mono ?_
    rintro e w2 ⟨rfl, hb2⟩
    have HB2 : Hid (Below w1.heap.size w1 w2) := hid hb2
    clear hb2 k0 k1 k2 k3 hz1 HBW
    obtain ⟨⟨k0, k1, k2, k3⟩, hbw, hz1⟩ := KE.out w2 HB2.out
    have HBW := hid hbw
    clear hbw CF
    go_wp2_with fail
    refine (C1.out _ HBW.out).mono ?_
    rintro e w3 ⟨hb3, (⟨_, rfl⟩ | ⟨h, _⟩)⟩
    rotate_left
    · cases h
    have HB3 := hid (bl_call HBW.out hb3)
    clear hb3 k0 k1 k2 k3 hz1 HBW
    go_wp2_with fail
    go_ret
    exact ⟨rfl, HB3.out⟩
  · rw [hvv] at C1 C2 C3 C4
    have E2 := hid (fun q v W h2 h hq => C2.out q v W rfl h2 h hq)
    have D3 := hid (fun W h => C3.out W rfl h)
    have D4 := hid (fun W h => C4.out W rfl h)
    clear C2 C3 C4
    generalize allS [] t = L at *
    have D2 : Hid (∀ (k : Nat) (hk : k < L.length) v W, Below w.heap.size w W → IntsR W (Lt W.heap.size) L[k] v → Calls Try.prog 36 #[.agg #[.int .i64 t.kind, .string t.text, .int .i64 t.cols, .slice A t.kids.length cap], v] W fun e w' => e = .returned (.bool true) ∧ Below W.heap.size W w') := fun k hk v W h hq => E2.out L[k] v W (HPI.out k hk) h hq
    clear HPI E2
    obtain ⟨tk, tx, tc, ts⟩ := t
    simp only [Tree.kind, Tree.text, Tree.cols, Tree.kids] at *
    clear hv htx hfew hct hvv
    have l1 : L.length ≤ 9223372036854775807 := by omega
    go_enter Try.func11, Try.ntmps11
    go_wp2_with fail
    refine (awake10_any _).mono ?_
    rintro e w1 ⟨rfl, hb1⟩
    obtain ⟨⟨k0, k1, k2, k3⟩, hbw, hz1⟩ := KB.out w1 hb1
    have HBW := hid hbw
    have KE : Hid (∀ W, Below w1.heap.size w1 W → (W.cell? ⟨w.heap.size, 0, none⟩ = some (.int .i64 tk) ∧ W.cell? ⟨w.heap.size, 1, none⟩ = some (.string tx) ∧ W.cell? ⟨w.heap.size, 2, none⟩ = some (.int .i64 tc) ∧ W.cell? ⟨w.heap.size, 3, none⟩ = some (.slice A ts.length cap)) ∧ Below w.heap.size w W ∧ w.heap.size < W.heap.size) := fun W h => KB.out W (hb1.trans (h.mono hb1.size))
    clear hb1 hbw KB
    go_wp2_with fail
    refine (CF.out _ HBW.out).mono ?_
    rintro e w2 ⟨rfl, hb2⟩
    have HB2 : Hid (Below w1.heap.size w1 w2) := hid hb2
    clear hb2 k0 k1 k2 k3 hz1 HBW
    obtain ⟨⟨k0, k1, k2, k3⟩, hbw, hz1⟩ := KE.out w2 HB2.out
    have HBW := hid hbw
    clear hbw CF
    go_wp2_with fail
    refine (C1.out _ HBW.out).mono ?_
    rintro e w3 ⟨hb3, (⟨h, _⟩ | ⟨_, v3, rfl, hr3⟩)⟩
    · cases h
    obtain ⟨B3, d3, rfl⟩ := hr3.rows.form
    have HR3 := hid hr3
    have HB3 := hid (bl_call HB2.out hb3)
    have KC : Hid (∀ W, Below w3.heap.size w3 W → (W.cell? ⟨w.heap.size, 0, none⟩ = some (.int .i64 tk) ∧ W.cell? ⟨w.heap.size, 1, none⟩ = some (.string tx) ∧ W.cell? ⟨w.heap.size, 2, none⟩ = some (.int .i64 tc) ∧ W.cell? ⟨w.heap.size, 3, none⟩ = some (.slice A ts.length cap)) ∧ Below w.heap.size w W ∧ w.heap.size < W.heap.size) := fun W h => KE.out W (bl_call HB3.out h)
    clear hb3 hr3 k0 k1 k2 k3 hz1 HBW KE
    go_wp2_with fail
    go_loopw [26] (fun i wr => Below w3.heap.size w3 wr ∧ ∃ k : Nat, k ≤ L.length ∧ i = .int .i64 k) (fun i _ => L.length - (intOf i).toNat)
    case atStart => exact ⟨Below.refl _ _, 0, Nat.zero_le _, rfl⟩
    case round =>
      obtain ⟨hbr, k, hk, rfl⟩ := hrel
      have HBR := hid hbr
      obtain ⟨⟨k0, k1, k2, k3⟩, hbw, hz1⟩ := KC.out wr hbr
      have HBW := hid hbw
      clear hbw
      rcases Nat.lt_or_ge k L.length with hlt | hge
      · obtain ⟨g, o, A1, c1, rfl, hq⟩ := row_later HR3.out hlt
        have HQ := hid hq
        obtain ⟨q1, hi1, hg⟩ := hq wr hbr
        have HI1 := hid hi1
        have i1 : (k : Int) < (L.length : Int) := by omega
        have i2 : (0 : Int) ≤ (k : Int) := by omega
        have HV := hid (D2.out k hlt)
        have KD : Hid (∀ W, Below wr.heap.size wr W → Below w3.heap.size w3 W) := fun W h => bl_call hbr h
        rcases k with _ | j
        · clear hbr hi1 hq
          simp only [Nat.add_zero] at q1 HQ
          rw [show ((0 : Nat) : Int) = 0 from rfl] at i1 i2 ⊢
          go_wp2_with fail
          refine wp_region_held_drew (S := (fun w' => w'.cell? ⟨w.heap.size, 0, none⟩ = some (.int .i64 tk) ∧ w'.cell? ⟨w.heap.size, 1, none⟩ = some (.string tx) ∧ w'.cell? ⟨w.heap.size, 2, none⟩ = some (.int .i64 tc) ∧ w'.cell? ⟨w.heap.size, 3, none⟩ = some (.slice A ts.length cap) ∧ w'.cell? ⟨g, o, none⟩ = some (.slice A1 L[0].length c1))) (by kernel_rfl) (by go_simp) (fun hHeld => ?_)
          refine wpAnyH_take (i := 0) (oi := ⟨some 29, _, _, _, _, _⟩) (v := ?_) rfl (by kernel_rfl) (by kernel_rfl) (by kernel_rfl) (fun _ _ _ h => h) (Or.inl ⟨by rfl, ?_⟩) hHeld ?_
          rotate_left
          · (intro w hSw; obtain ⟨s0, s1, s2, s3, s4⟩ := hSw; go_simp; try with_reducible rfl)
          try simp only [Act.put, List.setIfInBounds_toArray, List.set_cons_zero, List.set_cons_succ]
          refine wpAnyH_take (i := 1) (oi := ⟨some 30, _, _, _, _, _⟩) (v := ?_) rfl (by kernel_rfl) (by kernel_rfl) (by kernel_rfl) (fun _ _ _ h => h) (Or.inl ⟨by rfl, ?_⟩) hHeld ?_
          rotate_left
          · (intro w hSw; obtain ⟨s0, s1, s2, s3, s4⟩ := hSw; go_simp; try with_reducible rfl)
          try simp only [Act.put, List.setIfInBounds_toArray, List.set_cons_zero, List.set_cons_succ]
          refine wpAnyH_take (i := 2) (oi := ⟨some 31, _, _, _, _, _⟩) (v := ?_) rfl (by kernel_rfl) (by kernel_rfl) (by kernel_rfl) (fun _ _ _ h => h) (Or.inl ⟨by rfl, ?_⟩) hHeld ?_
          rotate_left
          · (intro w hSw; obtain ⟨s0, s1, s2, s3, s4⟩ := hSw; go_simp; try with_reducible rfl)
          try simp only [Act.put, List.setIfInBounds_toArray, List.set_cons_zero, List.set_cons_succ]
          refine wpAnyH_take (i := 3) (oi := ⟨some 32, _, _, _, _, _⟩) (v := ?_) rfl (by kernel_rfl) (by kernel_rfl) (by kernel_rfl) (fun _ _ _ h => h) (Or.inl ⟨by rfl, ?_⟩) hHeld ?_
          rotate_left
          · (intro w hSw; obtain ⟨s0, s1, s2, s3, s4⟩ := hSw; go_simp; try with_reducible rfl)
          try simp only [Act.put, List.setIfInBounds_toArray, List.set_cons_zero, List.set_cons_succ]
          refine wpAnyH_take (i := 4) (oi := ⟨some 33, _, _, _, _, _⟩) (v := ?_) rfl (by kernel_rfl) (by kernel_rfl) (by kernel_rfl) (fun _ _ _ h => h) (Or.inl ⟨by rfl, ?_⟩) hHeld ?_
          rotate_left
          · (intro w hSw; obtain ⟨s0, s1, s2, s3, s4⟩ := hSw; go_simp; try with_reducible rfl)
          try simp only [Act.put, List.setIfInBounds_toArray, List.set_cons_zero, List.set_cons_succ]
          refine wpAnyH_ready (rs := [5]) (by kernel_rfl) (by simp) ?_
          refine AllReadyH.cons (o := ⟨some 34, _, _, _, _, _⟩) rfl (fun K hK => ?_) AllReadyH.nil
          go_simp
          go_at_call 36
          refine (HV.out _ _ (bl_drew HBW.out) (slice_drew HI1.out)).mono ?_
          rintro e w4 ⟨rfl, hb4⟩
          have HB4 : Hid (Below wr.heap.size wr w4) := below_of_drewS hb4
          clear hb4
          obtain ⟨⟨m0, m1, m2, m3⟩, kb, _⟩ := KC.out _ (KD.out _ HB4.out)
          obtain ⟨m4, _, _⟩ := HQ.out _ (KD.out _ HB4.out)
          clear kb
          go_wp2_with fail
          refine hK.out _ _ ⟨m0, m1, m2, m3, m4⟩ (fun hHeld2 => ?_)
          clear hK K hHeld
          have hHeld := hHeld2
          clear hHeld2
          try simp only [Act.put, List.setIfInBounds_toArray, List.set_cons_zero, List.set_cons_succ]
          refine wpAnyH_take (i := 6) (oi := ⟨some 35, _, _, _, _, _⟩) (v := ?_) rfl (by kernel_rfl) (by kernel_rfl) (by kernel_rfl) (fun _ _ _ h => h) (Or.inl ⟨by rfl, ?_⟩) hHeld ?_
          rotate_left
          · (intro w hSw; obtain ⟨s0, s1, s2, s3, s4⟩ := hSw; go_simp; try with_reducible rfl)
          try simp only [Act.put, List.setIfInBounds_toArray, List.set_cons_zero, List.set_cons_succ]
          refine wpAnyH_take (i := 7) (oi := ⟨some 36, _, _, _, _, _⟩) (v := ?_) rfl (by kernel_rfl) (by kernel_rfl) (by kernel_rfl) (fun _ _ _ h => h) (Or.inl ⟨by rfl, ?_⟩) hHeld ?_
          rotate_left
          · (intro w hSw; obtain ⟨s0, s1, s2, s3, s4⟩ := hSw; go_simp; try with_reducible rfl)
          try simp only [Act.put, List.setIfInBounds_toArray, List.set_cons_zero, List.set_cons_succ]
          refine wpAnyH_take (i := 8) (oi := ⟨some 37, _, _, _, _, _⟩) (v := ?_) rfl (by kernel_rfl) (by kernel_rfl) (by kernel_rfl) (fun _ _ _ h => h) (Or.inl ⟨by rfl, ?_⟩) hHeld ?_
          rotate_left
          · (intro w hSw; obtain ⟨s0, s1, s2, s3, s4⟩ := hSw; go_simp; try with_reducible rfl)
          try simp only [Act.put, List.setIfInBounds_toArray, List.set_cons_zero, List.set_cons_succ]
          refine wpAnyH_take (i := 9) (oi := ⟨some 38, _, _, _, _, _⟩) (v := ?_) rfl (by kernel_rfl) (by kernel_rfl) (by kernel_rfl) (fun _ _ _ h => h) (Or.inl ⟨by rfl, ?_⟩) hHeld ?_
          rotate_left
          · (intro w hSw; obtain ⟨s0, s1, s2, s3, s4⟩ := hSw; go_simp; try with_reducible rfl)
          try simp only [Act.put, List.setIfInBounds_toArray, List.set_cons_zero, List.set_cons_succ]
          refine wpAnyH_take (i := 10) (oi := ⟨some 39, _, _, _, _, _⟩) (v := ?_) rfl (by kernel_rfl) (by kernel_rfl) (by kernel_rfl) (fun _ _ _ h => h) (Or.inl ⟨by rfl, ?_⟩) hHeld ?_
          rotate_left
          · (intro w hSw; obtain ⟨s0, s1, s2, s3, s4⟩ := hSw; go_simp; try with_reducible rfl)
          try simp only [Act.put, List.setIfInBounds_toArray, List.set_cons_zero, List.set_cons_succ]
          refine wpAnyH_take (i := 11) (oi := ⟨some 40, _, _, _, _, _⟩) (v := undef) rfl (by kernel_rfl) (by kernel_rfl) (by kernel_rfl) (fun _ _ _ h => h) (Or.inr ⟨by kernel_rfl, rfl⟩) hHeld ?_
          try simp only [Act.put, List.setIfInBounds_toArray, List.set_cons_zero, List.set_cons_succ]
          refine wpAnyH_take (i := 12) (oi := ⟨some 41, _, _, _, _, _⟩) (v := undef) rfl (by kernel_rfl) (by kernel_rfl) (by kernel_rfl) (fun _ _ _ h => h) (Or.inr ⟨by kernel_rfl, rfl⟩) hHeld ?_
          try simp only [Act.put, List.setIfInBounds_toArray, List.set_cons_zero, List.set_cons_succ]
          refine wpAnyH_take (i := 13) (oi := ⟨some 42, _, _, _, _, _⟩) (v := undef) rfl (by kernel_rfl) (by kernel_rfl) (by kernel_rfl) (fun _ _ _ h => h) (Or.inr ⟨by kernel_rfl, rfl⟩) hHeld ?_
          try simp only [Act.put, List.setIfInBounds_toArray, List.set_cons_zero, List.set_cons_succ]
          refine wpAnyH_take (i := 14) (oi := ⟨some 43, _, _, _, _, _⟩) (v := undef) rfl (by kernel_rfl) (by kernel_rfl) (by kernel_rfl) (fun _ _ _ h => h) (Or.inr ⟨by kernel_rfl, rfl⟩) hHeld ?_
          try simp only [Act.put, List.setIfInBounds_toArray, List.set_cons_zero, List.set_cons_succ]
          refine wpAnyH_take (i := 15) (oi := ⟨some 44, _, _, _, _, _⟩) (v := undef) rfl (by kernel_rfl) (by kernel_rfl) (by kernel_rfl) (fun _ _ _ h => h) (Or.inr ⟨by kernel_rfl, rfl⟩) hHeld ?_
          try simp only [Act.put, List.setIfInBounds_toArray, List.set_cons_zero, List.set_cons_succ]
          refine wpAnyH_take (i := 16) (oi := ⟨some 45, _, _, _, _, _⟩) (v := undef) rfl (by kernel_rfl) (by kernel_rfl) (by kernel_rfl) (fun _ _ _ h => h) (Or.inr ⟨by kernel_rfl, rfl⟩) hHeld ?_
          try simp only [Act.put, List.setIfInBounds_toArray, List.set_cons_zero, List.set_cons_succ]
          refine wpAnyH_take (i := 17) (oi := ⟨some 46, _, _, _, _, _⟩) (v := undef) rfl (by kernel_rfl) (by kernel_rfl) (by kernel_rfl) (fun _ _ _ h => h) (Or.inr ⟨by kernel_rfl, rfl⟩) hHeld ?_
          try simp only [Act.put, List.setIfInBounds_toArray, List.set_cons_zero, List.set_cons_succ]
          refine wpAnyH_take (i := 18) (oi := ⟨some 47, _, _, _, _, _⟩) (v := undef) rfl (by kernel_rfl) (by kernel_rfl) (by kernel_rfl) (fun _ _ _ h => h) (Or.inr ⟨by kernel_rfl, rfl⟩) hHeld ?_
          try simp only [Act.put, List.setIfInBounds_toArray, List.set_cons_zero, List.set_cons_succ]
          refine wpAnyH_take (i := 19) (oi := ⟨some 48, _, _, _, _, _⟩) (v := undef) rfl (by kernel_rfl) (by kernel_rfl) (by kernel_rfl) (fun _ _ _ h => h) (Or.inr ⟨by kernel_rfl, rfl⟩) hHeld ?_
          try simp only [Act.put, List.setIfInBounds_toArray, List.set_cons_zero, List.set_cons_succ]
          refine wpAnyH_take (i := 20) (oi := ⟨some 49, _, _, _, _, _⟩) (v := undef) rfl (by kernel_rfl) (by kernel_rfl) (by kernel_rfl) (fun _ _ _ h => h) (Or.inr ⟨by kernel_rfl, rfl⟩) hHeld ?_
          try simp only [Act.put, List.setIfInBounds_toArray, List.set_cons_zero, List.set_cons_succ]
          refine wpAnyH_take (i := 21) (oi := ⟨some 50, _, _, _, _, _⟩) (v := undef) rfl (by kernel_rfl) (by kernel_rfl) (by kernel_rfl) (fun _ _ _ h => h) (Or.inr ⟨by kernel_rfl, rfl⟩) hHeld ?_
          try simp only [Act.put, List.setIfInBounds_toArray, List.set_cons_zero, List.set_cons_succ]
          refine wpAnyH_take (i := 22) (oi := ⟨some 51, _, _, _, _, _⟩) (v := .bool false) rfl (by kernel_rfl) (by kernel_rfl) (by kernel_rfl) (fun _ _ _ h => h) (Or.inl ⟨by kernel_rfl, ?_⟩) hHeld ?_
          · (intro w hSw; obtain ⟨s0, s1, s2, s3, s4⟩ := hSw; go_simp; try with_reducible rfl)
          try simp only [Act.put, List.setIfInBounds_toArray, List.set_cons_zero, List.set_cons_succ]
          refine wpAnyH_take (i := 23) (oi := ⟨some 52, _, _, _, _, _⟩) (v := .bool false) rfl (by kernel_rfl) (by kernel_rfl) (by kernel_rfl) (fun _ _ _ h => h) (Or.inl ⟨by kernel_rfl, ?_⟩) hHeld ?_
          · (intro w hSw; obtain ⟨s0, s1, s2, s3, s4⟩ := hSw; go_simp; try with_reducible rfl)
          try simp only [Act.put, List.setIfInBounds_toArray, List.set_cons_zero, List.set_cons_succ]
          refine wpAnyH_done (by kernel_rfl) ?_ _
          clear hHeld
          go_wp2_with fail
          go_roundw
          case rel => exact ⟨KD.out _ HB4.out, 1, by omega, by go_num⟩
          case measure => simp [intOf]; omega
        · obtain ⟨g', o', A2, c2, hB, hq2⟩ := row_later HR3.out (Nat.lt_of_succ_lt hlt)
          cases hB
          have HQ2 := hid hq2
          obtain ⟨q2, hi2, _⟩ := hq2 wr hbr
          have HI2 := hid hi2
          have HC : Hid (∀ W, Below w3.heap.size w3 W → Calls Try.prog 32 #[.slice A2 (L[j]'(Nat.lt_of_succ_lt hlt)).length c2, .slice A1 L[j + 1].length c1] W fun e w' => e = .returned (.int .i64 (-1)) ∧ W = w') := fun W h => CC.out _ _ _ _ _ _ _ (HLT.out j hlt) (hq2 W h).2.1 (hq W h).2.1
          have dg : decide ((0 : Int) < (j : Int) + 1) = true := by rw [decide_eq_true_eq]; omega
          have j1 : (0 : Int) ≤ (j : Int) := by omega
          have j3 : (j : Int) + 1 < (L.length : Int) := by omega
          have j4 : (0 : Int) ≤ (j : Int) + 1 := by omega
          have j5 : ((j : Int) + 1).toNat = j + 1 := by omega
          have j7 : IntKind.i64.wrap ((j : Int) + 1 - 1) = (j : Int) := by rw [show (j : Int) + 1 - 1 = (j : Int) by omega]; exact IntWalk.i64_in _ (by omega)
          have j8 : IntKind.i64.wrap (j : Int) = (j : Int) := IntWalk.i64_in _ (by omega)
          have j2 : (j : Int) < (L.length : Int) := by omega
          generalize hz2 : (L[j]'(Nat.lt_of_succ_lt hlt)).length = z2 at *
          generalize hz1' : L[j + 1].length = z1 at *
          clear hbr hi1 hq hi2 hq2
          go_wp2_with fail
          go_region_held3 (fun w' => w'.cell? ⟨w.heap.size, 0, none⟩ = some (.int .i64 tk) ∧ w'.cell? ⟨w.heap.size, 1, none⟩ = some (.string tx) ∧ w'.cell? ⟨w.heap.size, 2, none⟩ = some (.int .i64 tc) ∧ w'.cell? ⟨w.heap.size, 3, none⟩ = some (.slice A ts.length cap) ∧ w'.cell? ⟨g, o + (j + 1), none⟩ = some (.slice A1 z1 c1) ∧ w'.cell? ⟨g, o + j, none⟩ = some (.slice A2 z2 c2)) (go_keep) (first
            | (go_at_call 36; refine (HV.out _ _ (bl_drew HBW.out) (slice_drew HI1.out)).mono ?_; rintro e w4 ⟨rfl, hb4⟩; have HB4 : Hid (Below wr.heap.size wr w4) := below_of_drewS hb4; clear hb4; obtain ⟨⟨m0, m1, m2, m3⟩, kb, _⟩ := KC.out _ (KD.out _ HB4.out); obtain ⟨m4, _, _⟩ := HQ.out _ (KD.out _ HB4.out); obtain ⟨m5, _, _⟩ := HQ2.out _ (KD.out _ HB4.out); clear kb)
            | (go_at_call 32; refine (HC.out _ (KD.out _ HB4.out)).mono ?_; rintro e w5 ⟨rfl, rfl⟩))
          go_wp2_with fail
          go_roundw
          case rel => exact ⟨KD.out _ HB4.out, j + 1 + 1, by omega, by go_num⟩
          case measure => simp [intOf]; omega
      · clear hbr
        go_wp2_with fail
        refine (D4.out _ HBW.out).mono ?_
        rintro e w4 ⟨rfl, hb4⟩
        have HB4 := hid (bl_call HBR.out hb4)
        clear hb4 k0 k1 k2 k3 hz1 HBW
        obtain ⟨⟨k0, k1, k2, k3⟩, hbw, hz1⟩ := KC.out w4 HB4.out
        have HBW := hid hbw
        clear hbw
        go_wp2_with fail
        refine (D3.out _ HBW.out).mono ?_
        rintro e w5 ⟨rfl, hb5⟩
        have HB5 := hid (bl_call HBW.out hb5)
        clear hb5
        go_wp2_with fail
        go_ret
        exact ⟨rfl, HB5.out⟩
end Go.Proofs.Ytognlokeadlpbaa
