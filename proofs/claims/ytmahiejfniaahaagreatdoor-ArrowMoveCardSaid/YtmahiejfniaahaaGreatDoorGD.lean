/- Texts put together: Pos2, Pos3, Pos4, Pos5, Pos6, PosL2, PosL3. -/
import Derived.Test.YtmahiejfniaahaaGreatDoorGJ
import Derived.Test.YtmahiejfniaahaaGreatDoorGK
import Derived.Test.YtmahiejfniaahaaGreatDoorGQ
import Derived.Test.YtmahiejfniaahaaGreatDoorHI
import Derived.Lib.LazyBuf
set_option linter.unusedVariables false
set_option linter.unusedSimpArgs false
set_option maxRecDepth 100000
namespace Go.Proofs.YtmahiejfniaahaaGreatDoor
open Go Go.RowKit Go.Shelf
attribute [local go_sem] Oper.semAt_some
def nextS (L : List (List Int)) (p : List Int) : Option (List Int) := L.find? (fun q => decide (0 < cmpS q p))
def nextR (t : Tree) (p : List Int) : List Int × Int :=
  if chkR (validS t) (posIn t p) = 0 then (match nextS (allS [] t) p with | some q => (q, 0) | none => ([], 8)) else ([], chkR (validS t) (posIn t p))
theorem find_pre {L : List (List Int)} {pre : List PosV} {x : PosV} (f : List Int → Bool) (h : (pre ++ [x]).map Prod.fst <+: L) (h1 : ∀ y ∈ pre, f y.1 = false) (h2 : f x.1 = true) : L.find? f = some x.1 := by
  obtain ⟨r, rfl⟩ := h
  rw [List.find?_append, List.map_append, List.find?_append]
  have : (pre.map Prod.fst).find? f = none := by rw [List.find?_eq_none]; intro q hq; obtain ⟨y, hy, rfl⟩ := List.mem_map.1 hq; simp [h1 y hy]
  rw [this]
  simp [h2]
theorem find_none {L : List (List Int)} {pre : List PosV} (f : List Int → Bool) (h : pre.map Prod.fst = L) (h1 : ∀ y ∈ pre, f y.1 = false) : L.find? f = none := by
  subst h
  rw [List.find?_eq_none]; intro q hq; obtain ⟨y, hy, rfl⟩ := List.mem_map.1 hq; simp [h1 y hy]
set_option maxHeartbeats 4000000 in
theorem next_any (t : Tree) (p : List Int) (A : Option Addr) (cap : Nat) (b : Value) (w : World) (hv : SliceR treeE w (Lt w.heap.size) t.kids (.slice A t.kids.length cap)) (htx : t.text.size ≤ maxLen) (hp : IntsR w (Lt w.heap.size) p b) :
    Calls Tryz.prog 95 #[.agg #[.int .i64 t.kind, .string t.text, .int .i64 t.cols, .slice A t.kids.length cap], b] w (PosRes w (nextR t p)) := by
  obtain ⟨Ap, cp, rfl⟩ := hp.form
  have HW4 : ∃ W4, W4 = (((w.alloc (Obj.cells #[.int .i64 t.kind, .string t.text, .int .i64 t.cols, .slice A t.kids.length cap] 24)).alloc (.cells #[.slice Ap p.length cp] 26)).alloc (.cells #[.slice none 0 0] 26)).alloc (.cells #[.int .i64 0] 33) := ⟨_, rfl⟩
  obtain ⟨W4, hW4⟩ := HW4
  have hb0 : Below w.heap.size w W4 := by rw [hW4]; exact ((((Below.refl _ w).alloc (Nat.le_refl _) _).alloc (by simp) _).alloc (by simp; omega) _).alloc (by simp; omega) _
  have hs4 : W4.heap.size = w.heap.size + 4 := by rw [hW4]; simp
  have HB0 := hid hb0
  have HCK : Hid (Calls Tryz.prog 122 #[.agg #[.int .i64 t.kind, .string t.text, .int .i64 t.cols, .slice A t.kids.length cap], .slice Ap p.length cp] W4 fun e w' => e = .returned (.int .i64 (chkR (validS t) (posIn t p))) ∧ Below W4.heap.size W4 w') :=
    check_any t p A cap _ W4 (hv.below hb0 hb0.size) htx (hp.below hb0 hb0.size)
  have HWF : Hid (w.heap.size + 1 + 1 + 1 < W4.heap.size) := by rw [hs4]; show _ < _; omega
  have KB : Hid (∀ W, Below W4.heap.size W4 W → NBox W w.heap.size t.kind t.cols t.text (.slice A t.kids.length cap) ∧ W.cell? ⟨w.heap.size + 1, 0, none⟩ = some (.slice Ap p.length cp) ∧
      (W.cell? ⟨w.heap.size + 1 + 1, 0, none⟩ = some (.slice none 0 0) ∧ W.frozen? ⟨w.heap.size + 1 + 1, 0, none⟩ = false) ∧ (W.cell? ⟨w.heap.size + 1 + 1 + 1, 0, none⟩ = some (.int .i64 0) ∧ W.frozen? ⟨w.heap.size + 1 + 1 + 1, 0, none⟩ = false)) := by
    intro W hW
    have hc := (bcell hW).1
    have hf := (bcell hW).2
    rw [hs4] at hc hf
    unfold NBox
    rw [hc _ _ (by omega), hc _ _ (by omega), hc _ _ (by omega), hc _ _ (by omega), hc _ _ (by omega), hc _ _ (by omega), hc _ _ (by omega), hf _ _ (by omega), hf _ _ (by omega), hW4]
    go_simp
  have HVK : Hid (∀ W, Below w.heap.size w W → SliceR treeE W (Lt w.heap.size) t.kids (.slice A t.kids.length cap)) := fun W h => hv.below h (Nat.le_refl _)
  have HPK : Hid (∀ W, Below w.heap.size w W → IntsR W (Lt w.heap.size) p (.slice Ap p.length cp)) := fun W h => hp.below h (Nat.le_refl _)
  have HVC : Hid (validS t = true → countS t ≤ 400000) := fun h => by have := (valid_count h).1; omega
  have HS4 := hid hs4
  have HW4 := hid hW4
  have hwf := HWF.out
  clear hv hp hb0 hs4 htx hW4
  by_cases hck : chkR (validS t) (posIn t p) = 0
  · have hb12 : validS t = true ∧ posIn t p = true := by
      unfold chkR at hck; cases h1 : validS t <;> cases h2 : posIn t p <;> simp_all
    have hcnt := HVC.out hb12.1
    have HCNT := hid hcnt
    have HR : Hid (nextR t p = (match nextS (allS [] t) p with | some q => (q, 0) | none => ([], 8))) := by show _ = _; rw [nextR, if_pos hck]
    rw [hck] at HCK
    generalize hL : allS [] t = L at HR
    have HL := hid hL
    obtain ⟨r, hr⟩ : ∃ r, r = ((match nextS L p with | some q => (q, 0) | none => ([], 8)) : List Int × Int) := ⟨_, rfl⟩
    have HRN : Hid (nextS L p = none → r = ([], 8)) := fun h => by rw [hr, h]
    have HRS : Hid (∀ q, nextS L p = some q → r = (q, 0)) := fun q h => by rw [hr, h]
    rw [HR.out, ← hr]
    clear hr
    have HPL : Hid (∀ x ∈ L, x.length ≤ 1000000) := by
      subst hL; intro x hx
      have := (posIn_bd t x (mem_all.1 hx)).1
      have := depth_le_count t
      omega
    obtain ⟨tk, tx, tc, ts⟩ := t
    simp only [Tree.kind, Tree.text, Tree.cols, Tree.kids] at *
    clear hb12 hcnt hck hL HR
    refine (callsIn_wide (n := 0)).1 ?_
    refine callsIn_of_wp_marks Tryz.func95 rfl trivial ?_ rfl
    simp only [Tryz.ntmps95, List.size_toArray, List.length_cons, List.length_nil, Nat.reduceAdd, Nat.reduceSub, Array.replicate_succ, Array.replicate_zero, List.push_toArray, List.append_toArray, List.nil_append, List.cons_append]
    gi_wp2_with fail
    rw [← HW4.out]
    refine ⟨trivial, rfl, ?_⟩
    refine (callsIn_wide.2 HCK.out).mono ?_
    rintro e w1 ⟨rfl, hb1⟩
    have HB1 := hid (HB0.out.trans (hb1.mono HB0.out.size))
    have hz : w.heap.size + 1 + 1 + 1 < w1.heap.size := Nat.lt_of_lt_of_le HWF.out hb1.size
    obtain ⟨⟨q0, q00, q01, q02⟩, qq1, ⟨q2, f2⟩, ⟨q3, f3⟩⟩ := KB.out w1 hb1
    clear hb1
    gi_wp2_with (refine ⟨trivial, rfl, ?_⟩; gi_at_call 88; refine (places_any _ ⟨_, _, _, _, rfl⟩ _ _).mono ?_; rintro e w' ⟨rfl, rfl⟩)
    have HC3 : Hid ((w1.alloc (.cells #[.int .i64 tk, .string tx, .int .i64 tc, .slice A ts.length cap] 24)).cell? ⟨w1.heap.size, 3, none⟩ = some (.slice A ts.length cap)) := by show _ = _; rw [World.cell?_alloc_new]; rfl
    have hb5 : Below w.heap.size w (w1.alloc (.cells #[.int .i64 tk, .string tx, .int .i64 tc, .slice A ts.length cap] 24)) := HB1.out.alloc HB1.out.size _
    have hz5 : (w1.alloc (.cells #[.int .i64 tk, .string tx, .int .i64 tc, .slice A ts.length cap] 24)).heap.size = w1.heap.size + 1 := by simp
    have q1' := cell_al qq1 (.cells #[.int .i64 tk, .string tx, .int .i64 tc, .slice A ts.length cap] 24)
    have q2' := frozen_al ⟨q2, f2⟩ (.cells #[.int .i64 tk, .string tx, .int .i64 tc, .slice A ts.length cap] 24)
    have q3' := frozen_al ⟨q3, f3⟩ (.cells #[.int .i64 tk, .string tx, .int .i64 tc, .slice A ts.length cap] 24)
    generalize (w1.alloc (.cells #[.int .i64 tk, .string tx, .int .i64 tc, .slice A ts.length cap] 24)) = W5 at *
    clear q0 q00 q01 q02 qq1 q2 f2 q3 f3
    refine wpIn_places 7 (.mk tk tx tc ts) w.heap.size (w.heap.size + 4) w1.heap.size A cap rfl (by omega) (by omega) (by omega) HC3.out (HVK.out _ hb5) HCNT.out
      (fun pre W => ((∀ y ∈ pre, cmpS y.1 p ≤ 0) ∧ Below w.heap.size w W) ∧ W.cell? ⟨w.heap.size + 1, 0, none⟩ = some (.slice Ap p.length cp) ∧
        (W.cell? ⟨w.heap.size + 1 + 1, 0, none⟩ = some (.slice none 0 0) ∧ W.frozen? ⟨w.heap.size + 1 + 1, 0, none⟩ = false) ∧ (W.cell? ⟨w.heap.size + 1 + 1 + 1, 0, none⟩ = some (.int .i64 0) ∧ W.frozen? ⟨w.heap.size + 1 + 1 + 1, 0, none⟩ = false))
      (fun c pre W => (c = .ret ∧ ∃ q x, pre = q ++ [x] ∧ (∀ y ∈ q, cmpS y.1 p ≤ 0) ∧ 0 < cmpS x.1 p ∧ W.cell? ⟨w.heap.size + 1 + 1, 0, none⟩ = some x.2 ∧ W.cell? ⟨w.heap.size + 1 + 1 + 1, 0, none⟩ = some (.int .i64 0) ∧ PRd (W5.heap.size + 2) x W) ∧ Below w.heap.size w W)
      ?hI ?hIx ⟨⟨by simp, hb5⟩, q1', q2', q3'⟩ ?assign ?body ?done ?stop
    case hI => exact OwnFrom.and (OwnFrom.and (own_pure _ _) (ownFrom_below (Nat.le_refl _) hb5.size)) (OwnFrom.and (own_cell _ _ _) (OwnFrom.and (own_box _ _ _) (own_box _ _ _)))
    case hIx =>
      intro c
      refine OwnFrom.and ?_ (ownFrom_below (Nat.le_refl _) hb5.size)
      rintro s A B row ⟨hc, q, x, hs, h1, h2, h3, h4, h5⟩ hg hr
      exact ⟨hc, q, x, hs, h1, h2, cell_kept h3 hg (fun r e => (hr r e).2), cell_kept h4 hg (fun r e => (hr r e).2), own_ints _ (W5.heap.size + 2) (fun _ => x.1) (fun _ => x.2) s A B row h5 hg hr⟩
    case assign =>
      intro l x W K hK
      gi_wp2
      exact hK
    case body =>
      rintro l pre ⟨xl, xv⟩ W ⟨⟨hp1, hb⟩, hc1, ⟨hc2, hf2⟩, hc3, hf3⟩ hx hpre
      obtain ⟨Ax, cx, rfl, hx⟩ := prd_form hx
      dsimp only
      have HP1 := hid hp1
      have HB := hid hb
      have HX := hid hx
      have hzz : w.heap.size + 1 + 1 + 1 < W.heap.size := World.block_lt_of_cell? W _ hc3
      have HC : Hid (Calls Tryz.prog 124 #[.slice Ax xl.length cx, .slice Ap p.length cp] W fun e w' => e = .returned (.int .i64 (cmpS xl p)) ∧ W = w') := scmp_q xl p W (.slice Ax xl.length cx) _ _ _ hx (HPK.out W hb)
      clear hp1 hb hx hpre
      by_cases hgt : 0 < cmpS xl p
      · have dd : decide (0 < cmpS xl p) = true := by simpa using hgt
        have HG := hid hgt
        have dd2 : decide (cmpS xl p ≤ 0) = false := by simp; omega
        clear hgt
        generalize hq : cmpS xl p = z at HC dd dd2 HG
        have HZ := hid hq
        clear hq
        gi_wp2_with (refine ⟨trivial, rfl, ?_⟩; gi_at_call 124; refine (CallsIn.inRound l (callsIn_wide.2 HC.out)).mono ?_; rintro e w' ⟨rfl, rfl⟩)
        have r0 : ((W.setCell ⟨w.heap.size + 1 + 1, 0, none⟩ (.slice Ax xl.length cx)).setCell ⟨w.heap.size + 1 + 1 + 1, 0, none⟩ (.int .i64 0)).cell? ⟨w.heap.size + 1 + 1, 0, none⟩ = some (.slice Ax xl.length cx) := by go_simp
        have r1 : ((W.setCell ⟨w.heap.size + 1 + 1, 0, none⟩ (.slice Ax xl.length cx)).setCell ⟨w.heap.size + 1 + 1 + 1, 0, none⟩ (.int .i64 0)).cell? ⟨w.heap.size + 1 + 1 + 1, 0, none⟩ = some (.int .i64 0) := by go_simp
        have hb2 := (HB.out.setCell (p := ⟨w.heap.size + 1 + 1, 0, none⟩) (by simp; omega) (.slice Ax xl.length cx)).setCell (p := ⟨w.heap.size + 1 + 1 + 1, 0, none⟩) (by simp; omega) (.int .i64 0)
        refine ⟨(KeepsOthers.setCell _ _ _).trans (KeepsOthers.setCell _ _ _), ⟨rfl, pre, _, rfl, HP1.out, by rw [HZ.out]; exact HG.out, r0, r1, ?_⟩, hb2⟩
        refine SliceR.keep HX.out (fun q hq => ?_) (fun k hk => ⟨hk.1, by simpa using hk.2⟩)
        have h1 : W5.heap.size + 2 ≤ q.block := hq.1
        rw [cell_set_far _ trivial (by simp; omega), cell_set_far _ trivial (by simp; omega)]
      · have dd : decide (0 < cmpS xl p) = false := by simpa using hgt
        have dd2 : decide (cmpS xl p ≤ 0) = true := by simp; omega
        have HG : Hid (cmpS xl p ≤ 0) := by show _ ≤ _; omega
        clear hgt
        generalize hq : cmpS xl p = z at HC dd dd2 HG
        have HZ := hid hq
        clear hq
        gi_wp2_with (refine ⟨trivial, rfl, ?_⟩; gi_at_call 124; refine (CallsIn.inRound l (callsIn_wide.2 HC.out)).mono ?_; rintro e w' ⟨rfl, rfl⟩)
        refine ⟨KeepsOthers.refl _, But.refl _ _, ⟨?_, HB.out⟩, hc1, ⟨hc2, hf2⟩, hc3, hf3⟩
        intro y hy
        rcases List.mem_append.1 hy with hy | hy
        · exact HP1.out y hy
        · obtain rfl := List.mem_singleton.1 hy
          show cmpS xl p ≤ 0
          rw [HZ.out]; exact HG.out
    case done =>
      rintro D xs W hD hxs ⟨⟨hp1, hb⟩, hc1, ⟨hc2, hf2⟩, hc3, hf3⟩ hK
      have HN := hid (find_none (L := L) (fun q => decide (0 < cmpS q p)) (by rw [hxs, HL.out]) (fun y hy => by simpa using hp1 y hy))
      have HB := hid hb
      clear hp1 hb hxs
      have hzz : w.heap.size + 1 + 1 + 1 < W.heap.size := World.block_lt_of_cell? W _ hc3
      gi_wp2
      have r0 : ((W.setCell ⟨w.heap.size + 1 + 1, 0, none⟩ (.slice none 0 0)).setCell ⟨w.heap.size + 1 + 1 + 1, 0, none⟩ (.int .i64 8)).cell? ⟨w.heap.size + 1 + 1, 0, none⟩ = some (.slice none 0 0) := by go_simp
      have r1 : ((W.setCell ⟨w.heap.size + 1 + 1, 0, none⟩ (.slice none 0 0)).setCell ⟨w.heap.size + 1 + 1 + 1, 0, none⟩ (.int .i64 8)).cell? ⟨w.heap.size + 1 + 1 + 1, 0, none⟩ = some (.int .i64 8) := by go_simp
      have hb2 := (HB.out.setCell (p := ⟨w.heap.size + 1 + 1, 0, none⟩) (by simp; omega) (.slice none 0 0)).setCell (p := ⟨w.heap.size + 1 + 1 + 1, 0, none⟩) (by simp; omega) (.int .i64 8)
      have hK2 := ((KeepsOthers.setCell W ⟨w.heap.size + 1 + 1, 0, none⟩ (.slice none 0 0)).trans (KeepsOthers.setCell _ ⟨w.heap.size + 1 + 1 + 1, 0, none⟩ (.int .i64 8))).same D _ hK rfl
      generalize ((W.setCell ⟨w.heap.size + 1 + 1, 0, none⟩ (.slice none 0 0)).setCell ⟨w.heap.size + 1 + 1 + 1, 0, none⟩ (.int .i64 8)) = W2 at *
      have r0' := cell_put r0 (.deferred none) hK2 rfl
      have r1' := cell_put r1 (.deferred none) hK2 rfl
      have hb3 := hb2.trans (belowK_b (w := w) (Nat.le_refl _) W2 D _ (.deferred none) (by omega) hK2 rfl rfl)
      refine ⟨by simp, .inl ⟨_, _, rfl, run_takeDeferred hK2, ?_⟩⟩
      generalize W2.putObj D (.deferred none) = W3 at *
      rw [HRN.out HN.out]
      exact ⟨.tuple #[.slice none 0 0, .int .i64 8], by simp [results, Tryz.results95, go_sem, r0', r1'], hb3, _, rfl, SliceR.nil_ 0 (by simp [maxLen]) none⟩
    case stop =>
      rintro D c pre W hD hpre ⟨⟨rfl, q, ⟨xl, xv⟩, rfl, h1, h2, h3, h4, hx⟩, hb⟩ hK
      have HN := hid (find_pre (L := L) (fun q => decide (0 < cmpS q p)) (by rw [← HL.out]; exact hpre) (fun y hy => by simpa using h1 y hy) (by simpa using h2))
      obtain ⟨Ax, cx, rfl, hx⟩ := prd_form hx
      have HB := hid hb
      have HX := hid hx
      clear hb h1 h2 hpre hx
      gi_wp2
      have r0' := cell_put h3 (.deferred none) hK rfl
      have r1' := cell_put h4 (.deferred none) hK rfl
      have hb3 := HB.out.trans (belowK_b (w := w) (Nat.le_refl _) W D _ (.deferred none) (by omega) hK rfl rfl)
      have hx3 := prd_own (W5.heap.size + 2) (xl, .slice Ax xl.length cx) W D _ (.deferred none) hK rfl HX.out
      refine ⟨by simp, .inl ⟨_, _, rfl, run_takeDeferred hK, ?_⟩⟩
      generalize W.putObj D (.deferred none) = W3 at *
      rw [HRS.out _ HN.out]
      exact ⟨.tuple #[.slice Ax xl.length cx, .int .i64 0], by simp [results, Tryz.results95, go_sem, r0', r1'], hb3, _, rfl, SliceR.wide hx3 (fun k hk => ⟨by omega, hk.2⟩)⟩
  · have HR : Hid (nextR t p = ([], chkR (validS t) (posIn t p))) := by show _ = _; rw [nextR, if_neg hck]
    have d1 : (chkR (validS t) (posIn t p) != 0) = true := by simpa using hck
    have HCK1 := HCK
    rw [HR.out]
    clear HR hck HCK
    generalize chkR (validS t) (posIn t p) = c at *
    obtain ⟨tk, tx, tc, ts⟩ := t
    simp only [Tree.kind, Tree.text, Tree.cols, Tree.kids] at *
    go_enter Tryz.func95, Tryz.ntmps95
    go_wp2_with fail
    rw [← HW4.out]
    refine HCK1.out.mono ?_
    rintro e w1 ⟨rfl, hb1⟩
    have HB1 := hid (HB0.out.trans (hb1.mono HB0.out.size))
    have hz : w.heap.size + 1 + 1 + 1 < w1.heap.size := Nat.lt_of_lt_of_le HWF.out hb1.size
    obtain ⟨_, _, ⟨q2, f2⟩, ⟨q3, f3⟩⟩ := KB.out w1 hb1
    clear hb1
    go_wp2_with fail
    have r0 : ((w1.setCell ⟨w.heap.size + 1 + 1, 0, none⟩ (.slice none 0 0)).setCell ⟨w.heap.size + 1 + 1 + 1, 0, none⟩ (.int .i64 c)).cell? ⟨w.heap.size + 1 + 1, 0, none⟩ = some (.slice none 0 0) := by go_simp
    have r1 : ((w1.setCell ⟨w.heap.size + 1 + 1, 0, none⟩ (.slice none 0 0)).setCell ⟨w.heap.size + 1 + 1 + 1, 0, none⟩ (.int .i64 c)).cell? ⟨w.heap.size + 1 + 1 + 1, 0, none⟩ = some (.int .i64 c) := by go_simp
    have hb2 : Below w.heap.size w ((w1.setCell ⟨w.heap.size + 1 + 1, 0, none⟩ (.slice none 0 0)).setCell ⟨w.heap.size + 1 + 1 + 1, 0, none⟩ (.int .i64 c)) := (HB1.out.setCell (p := ⟨w.heap.size + 1 + 1, 0, none⟩) (by simp; omega) _).setCell (p := ⟨w.heap.size + 1 + 1 + 1, 0, none⟩) (by simp; omega) _
    generalize ((w1.setCell ⟨w.heap.size + 1 + 1, 0, none⟩ (.slice none 0 0)).setCell ⟨w.heap.size + 1 + 1 + 1, 0, none⟩ (.int .i64 c)) = W2 at *
    exact bodyPost_ret (v := .tuple #[.slice none 0 0, .int .i64 c]) (by simp [results, Tryz.results95, go_sem, r0, r1]) rfl ⟨hb2, _, rfl, SliceR.nil_ 0 (by simp [maxLen]) none⟩
end Go.Proofs.YtmahiejfniaahaaGreatDoor
set_option linter.unusedVariables false
set_option linter.unusedSimpArgs false
set_option maxRecDepth 100000
namespace Go.Proofs.YtmahiejfniaahaaGreatDoor
open Go Go.RowKit Go.Shelf
attribute [local go_sem] Oper.semAt_some
theorem box_two (w1 : World) (b u0 u1 u2 u3 : Value) (ty tn : TypeId) :
    ((w1.alloc (.cells #[b] ty)).alloc (.cells #[u0, u1, u2, u3] tn)).cell? ⟨w1.heap.size + 1, 3, none⟩ = some u3 ∧
    (((w1.alloc (.cells #[b] ty)).alloc (.cells #[u0, u1, u2, u3] tn)).cell? ⟨w1.heap.size, 0, none⟩ = some b ∧ ((w1.alloc (.cells #[b] ty)).alloc (.cells #[u0, u1, u2, u3] tn)).frozen? ⟨w1.heap.size, 0, none⟩ = false) ∧
    ((w1.alloc (.cells #[b] ty)).alloc (.cells #[u0, u1, u2, u3] tn)).heap.size = w1.heap.size + 2 := by
  have hh := World.alloc_heap_new w1 (.cells #[b] ty)
  have h : (w1.alloc (.cells #[b] ty)).cell? ⟨w1.heap.size, 0, none⟩ = some b ∧ (w1.alloc (.cells #[b] ty)).frozen? ⟨w1.heap.size, 0, none⟩ = false := by
    generalize w1.alloc (.cells #[b] ty) = W at hh ⊢
    constructor <;> simp [World.cell?, World.frozen?, hh]
  refine ⟨?_, frozen_al h _, by simp⟩
  have e : (w1.alloc (.cells #[b] ty)).heap.size = w1.heap.size + 1 := by simp
  rw [← e, World.cell?_alloc_new]; rfl
end Go.Proofs.YtmahiejfniaahaaGreatDoor
set_option linter.unusedVariables false
set_option linter.unusedSimpArgs false
set_option maxRecDepth 100000
namespace Go.Proofs.YtmahiejfniaahaaGreatDoor
open Go Go.RowKit Go.Shelf
attribute [local go_sem] Oper.semAt_some
theorem takeWhile_pre {L : List (List Int)} {pre : List PosV} {x : PosV} (f : List Int → Bool) (h : (pre ++ [x]).map Prod.fst <+: L) (h1 : ∀ y ∈ pre, f y.1 = true) (h2 : f x.1 = false) : L.takeWhile f = pre.map Prod.fst := by
  obtain ⟨r, rfl⟩ := h
  have h3 : ∀ a ∈ pre.map Prod.fst, f a = true := fun a ha => by obtain ⟨y, hy, rfl⟩ := List.mem_map.1 ha; exact h1 y hy
  rw [List.map_append, List.append_assoc, List.takeWhile_append_of_pos h3]
  simp [List.takeWhile_cons, h2]
theorem takeWhile_all {L : List (List Int)} {pre : List PosV} (f : List Int → Bool) (h : pre.map Prod.fst = L) (h1 : ∀ y ∈ pre, f y.1 = true) : L.takeWhile f = pre.map Prod.fst := by
  subst h
  have h3 : ∀ a ∈ pre.map Prod.fst, f a = true := fun a ha => by obtain ⟨y, hy, rfl⟩ := List.mem_map.1 ha; exact h1 y hy
  have := List.takeWhile_append_of_pos (l₂ := []) h3
  simpa using this
end Go.Proofs.YtmahiejfniaahaaGreatDoor
set_option linter.unusedVariables false
set_option linter.unusedSimpArgs false
set_option maxRecDepth 100000
namespace Go.Proofs.YtmahiejfniaahaaGreatDoor
open Go Go.RowKit Go.Shelf
attribute [local go_sem] Oper.semAt_some
def lastV (pre : List PosV) : Value := match pre.getLast? with | some x => x.2 | none => .slice none 0 0
def lastL (pre : List PosV) : List Int := match pre.getLast? with | some x => x.1 | none => []
theorem lastV_snoc (pre : List PosV) (x : PosV) : lastV (pre ++ [x]) = x.2 := by simp [lastV]
theorem lastL_snoc (pre : List PosV) (x : PosV) : lastL (pre ++ [x]) = x.1 := by simp [lastL]
def lastO (L : List (List Int)) (p : List Int) : Option (List Int) := (L.takeWhile (fun q => decide (q ≠ p))).getLast?
def optR (o : Option (List Int)) : List Int × Int := match o with | some q => (q, 0) | none => ([], 8)
def prevR (t : Tree) (p : List Int) : List Int × Int := if chkR (validS t) (posIn t p) = 0 then optR (lastO (allS [] t) p) else ([], chkR (validS t) (posIn t p))
set_option maxHeartbeats 4000000 in
theorem prev_any (t : Tree) (p : List Int) (A : Option Addr) (cap : Nat) (b : Value) (w : World) (hv : SliceR treeE w (Lt w.heap.size) t.kids (.slice A t.kids.length cap)) (htx : t.text.size ≤ maxLen) (hp : IntsR w (Lt w.heap.size) p b) :
    Calls Tryz.prog 94 #[.agg #[.int .i64 t.kind, .string t.text, .int .i64 t.cols, .slice A t.kids.length cap], b] w (PosRes w (prevR t p)) := by
  obtain ⟨Ap, cp, rfl⟩ := hp.form
  obtain ⟨W4, hW4⟩ : ∃ W4, W4 = (w.alloc (Obj.cells #[.int .i64 t.kind, .string t.text, .int .i64 t.cols, .slice A t.kids.length cap] 24)).alloc (.cells #[.slice Ap p.length cp] 26) := ⟨_, rfl⟩
  have hb0 : Below w.heap.size w W4 := by rw [hW4]; exact ((Below.refl _ w).alloc (Nat.le_refl _) _).alloc (by simp) _
  have hs4 : W4.heap.size = w.heap.size + 2 := by rw [hW4]; simp
  have HB0 := hid hb0
  have HCK : Hid (Calls Tryz.prog 122 #[.agg #[.int .i64 t.kind, .string t.text, .int .i64 t.cols, .slice A t.kids.length cap], .slice Ap p.length cp] W4 fun e w' => e = .returned (.int .i64 (chkR (validS t) (posIn t p))) ∧ Below W4.heap.size W4 w') :=
    check_any t p A cap _ W4 (hv.below hb0 hb0.size) htx (hp.below hb0 hb0.size)
  have KB : Hid (∀ W, Below W4.heap.size W4 W → NBox W w.heap.size t.kind t.cols t.text (.slice A t.kids.length cap) ∧ W.cell? ⟨w.heap.size + 1, 0, none⟩ = some (.slice Ap p.length cp)) := by
    intro W hW
    have hc := (bcell hW).1
    rw [hs4] at hc
    unfold NBox
    rw [hc _ _ (by omega), hc _ _ (by omega), hc _ _ (by omega), hc _ _ (by omega), hc _ _ (by omega), hW4]
    go_simp
  have HVK : Hid (∀ W, Below w.heap.size w W → SliceR treeE W (Lt w.heap.size) t.kids (.slice A t.kids.length cap)) := fun W h => hv.below h (Nat.le_refl _)
  have HPK : Hid (∀ W, Below w.heap.size w W → IntsR W (Lt w.heap.size) p (.slice Ap p.length cp)) := fun W h => hp.below h (Nat.le_refl _)
  have HVC : Hid (validS t = true → countS t ≤ 1000) := fun h => (valid_count h).1
  have HS4 := hid hs4
  have HW4 := hid hW4
  clear hv hp hb0 hs4 htx hW4
  by_cases hck : chkR (validS t) (posIn t p) = 0
  · have hb12 : validS t = true ∧ posIn t p = true := by
      unfold chkR at hck; cases h1 : validS t <;> cases h2 : posIn t p <;> simp_all
    have hcnt := HVC.out hb12.1
    have HCNT := hid hcnt
    have HLE : Hid ((allS [] t).length ≤ 2000) := by show _ ≤ _; rw [allS_len]; have := cntS_le t; omega
    have HR : Hid (prevR t p = optR (lastO (allS [] t) p)) := by show _ = _; rw [prevR, if_pos hck]
    have HNE : Hid (∀ q ∈ allS [] t, 0 < q.length) := fun q hq => by
      have := mem_all.1 hq
      rcases q with _ | ⟨_, _⟩
      · simp [posIn] at this
      · simp
    rw [hck] at HCK
    rw [HR.out]
    generalize hL : allS [] t = L at *
    have HL := hid hL
    have HLT : Hid (∀ q : List PosV, (∀ y ∈ q, y.1 ≠ p) → q.map Prod.fst = L → (q.map Prod.fst).getLast? = lastO L p) := fun q h1 h2 => by
      rw [lastO, takeWhile_all _ h2 (fun y hy => by simpa using h1 y hy)]
    have HLS : Hid (∀ (q : List PosV) (x : PosV), (∀ y ∈ q, y.1 ≠ p) → x.1 = p → (q ++ [x]).map Prod.fst <+: L → (q.map Prod.fst).getLast? = lastO L p) := fun q x h1 h3 h2 => by
      rw [lastO, takeWhile_pre _ h2 (fun y hy => by simpa using h1 y hy) (by simpa using h3)]
    have HRN : Hid (∀ q : List PosV, (q.map Prod.fst).getLast? = lastO L p → q = [] → optR (lastO L p) = ([], 8)) := fun q h1 h2 => by subst h2; rw [← h1]; rfl
    have HRS : Hid (∀ q : List PosV, (q.map Prod.fst).getLast? = lastO L p → ∀ q' x, q = q' ++ [x] → optR (lastO L p) = (x.1, 0)) := fun q h1 q' x h2 => by subst h2; rw [← h1]; simp [optR]
    generalize lastO L p = O at *
    generalize optR O = r at *
    obtain ⟨tk, tx, tc, ts⟩ := t
    simp only [Tree.kind, Tree.text, Tree.cols, Tree.kids] at *
    clear hcnt hck hL HR HVC hb12
    refine (callsIn_wide (n := 0)).1 ?_
    refine callsIn_of_wp_marks Tryz.func94 rfl trivial ?_ rfl
    simp only [Tryz.ntmps94, List.size_toArray, List.length_cons, List.length_nil, Nat.reduceAdd, Nat.reduceSub, Array.replicate_succ, Array.replicate_zero, List.push_toArray, List.append_toArray, List.nil_append, List.cons_append]
    gi_wp2_with fail
    rw [← HW4.out]
    refine ⟨trivial, rfl, ?_⟩
    refine (callsIn_wide.2 HCK.out).mono ?_
    rintro e w1 ⟨rfl, hb1⟩
    have HB1 := hid (HB0.out.trans (hb1.mono HB0.out.size))
    have HZ1 : Hid (w.heap.size + 1 < w1.heap.size) := by have := HS4.out; have := hb1.size; show _ < _; omega
    have hz := HZ1.out
    have hz0 : w.heap.size < w1.heap.size := by omega
    obtain ⟨⟨q0, q00, q01, q02⟩, qq⟩ := KB.out w1 hb1
    clear hb1
    gi_wp2_with (refine ⟨trivial, rfl, ?_⟩; gi_at_call 88; refine (places_any _ ⟨_, _, _, _, rfl⟩ _ _).mono ?_; rintro e w' ⟨rfl, rfl⟩)
    obtain ⟨HC3, ⟨k0, kf⟩, hz5⟩ := box_two w1 (.slice none 0 0) (.int .i64 tk) (.string tx) (.int .i64 tc) (.slice A ts.length cap) 26 24
    have hb5 : Below w.heap.size w ((w1.alloc (.cells #[.slice none 0 0] 26)).alloc (.cells #[.int .i64 tk, .string tx, .int .i64 tc, .slice A ts.length cap] 24)) := (HB1.out.alloc HB1.out.size _).alloc (by simp; omega) _
    have kq := cell_al (cell_al qq (.cells #[.slice none 0 0] 26)) (.cells #[.int .i64 tk, .string tx, .int .i64 tc, .slice A ts.length cap] 24)
    generalize ((w1.alloc (.cells #[.slice none 0 0] 26)).alloc (.cells #[.int .i64 tk, .string tx, .int .i64 tc, .slice A ts.length cap] 24)) = W5 at *
    clear q0 q00 q01 q02 qq
    have HB5 := hid hb5
    refine wpIn_places 8 (.mk tk tx tc ts) w.heap.size (w1.heap.size + 1) (w1.heap.size + 1) A cap rfl (by omega) (by omega) (by omega) HC3 (HVK.out _ hb5) (by have := HCNT.out; omega)
      (fun pre W => ((∀ y ∈ pre, y.1 ≠ p) ∧ Below w.heap.size w W) ∧ W.cell? ⟨w.heap.size + 1, 0, none⟩ = some (.slice Ap p.length cp) ∧ (W.cell? ⟨w1.heap.size, 0, none⟩ = some (lastV pre) ∧ W.frozen? ⟨w1.heap.size, 0, none⟩ = false) ∧ IntsR W (fun k => W5.heap.size + 2 ≤ k ∧ k < W.heap.size) (lastL pre) (lastV pre))
      (fun c pre W => (c = .exit 0 ∧ ∃ q x, pre = q ++ [x] ∧ (∀ y ∈ q, y.1 ≠ p) ∧ x.1 = p ∧ W.cell? ⟨w1.heap.size, 0, none⟩ = some (lastV q) ∧ IntsR W (fun k => W5.heap.size + 2 ≤ k ∧ k < W.heap.size) (lastL q) (lastV q)) ∧ Below w.heap.size w W)
      ?hI ?hIx ⟨⟨by simp, hb5⟩, kq, ⟨k0, kf⟩, SliceR.nil_ 0 (by simp [maxLen]) none⟩ ?assign ?body ?done ?stop
    case hI => exact OwnFrom.and (OwnFrom.and (own_pure _ _) (ownFrom_below (Nat.le_refl _) hb5.size)) (OwnFrom.and (own_cell _ _ _) (OwnFrom.and (own_box _ _ lastV) (own_ints _ _ lastL lastV)))
    case hIx =>
      intro c
      refine OwnFrom.and ?_ (ownFrom_below (Nat.le_refl _) hb5.size)
      rintro s A B row ⟨hc, q, x, h1, h2, h3, h4, h5⟩ hg hr
      exact ⟨hc, q, x, h1, h2, h3, cell_kept h4 hg (fun r e => (hr r e).2), own_ints _ (W5.heap.size + 2) (fun _ => lastL q) (fun _ => lastV q) s A B row h5 hg hr⟩
    case assign =>
      intro l x W K hK
      gi_wp2
      exact hK
    case body =>
      rintro l pre ⟨xl, xv⟩ W ⟨⟨hp1, hb⟩, hcp, ⟨hc1, hf1⟩, hlv⟩ hx hpre
      obtain ⟨Ax, cx, rfl, hx⟩ := prd_form hx
      dsimp only
      have HP1 := hid hp1
      have HB := hid hb
      have HX := hid hx
      have HLV := hid hlv
      have hzz := World.block_lt_of_cell? W _ hc1
      have HC0 : Hid (Calls Tryz.prog 123 #[.slice Ax xl.length cx, .slice Ap p.length cp] W fun e w' => e = .returned (.bool (decide (xl = p))) ∧ ∃ m, w' = W.drewN m) := equal_q xl p W _ _ _ _ hx (HPK.out W hb)
      clear hb hx hpre hp1 hlv
      by_cases hxp : xl = p
      · have HXP := hid hxp
        have hd : decide (xl = p) = true := by simpa using hxp
        rw [hd] at HC0
        clear hxp hd
        have HC1 := hid hc1
        gi_wp2_with (refine ⟨trivial, rfl, ?_⟩; gi_at_call 123; refine (CallsIn.inRound l (callsIn_wide.2 HC0.out)).mono ?_; rintro e w' ⟨rfl, m, rfl⟩)
        exact ⟨keepsDrewN W m, ⟨rfl, pre, _, rfl, HP1.out, HXP.out, HC1.out, SliceR.keep HLV.out (fun _ _ => rfl) (fun _ h => h)⟩, below_dn1R HB.out m⟩
      · have HXP := hid hxp
        have hd : decide (xl = p) = false := by simpa using hxp
        have HPN : Hid (∀ y ∈ pre ++ [((xl, .slice Ax xl.length cx) : PosV)], y.1 ≠ p) := by
          intro y hy
          rcases List.mem_append.1 hy with hy | hy
          · exact HP1.out y hy
          · obtain rfl := List.mem_singleton.1 hy
            exact hxp
        rw [hd] at HC0
        clear hxp hd HLS
        have HC1 := hid hc1
        have HFF := hid hf1
        obtain ⟨lv, hlv⟩ : ∃ lv, lv = lastV pre := ⟨_, rfl⟩
        rw [← hlv] at hc1
        have HZ5 := hid hz5
        clear hlv hz5
        gi_wp2_with (refine ⟨trivial, rfl, ?_⟩; gi_at_call 123; refine (CallsIn.inRound l (callsIn_wide.2 HC0.out)).mono ?_; rintro e w' ⟨rfl, m, rfl⟩)
        refine ⟨(keepsDrewN W m).trans (KeepsOthers.setCell _ _ _), (But.drewN W m).trans (But.setCell (V := VP _ _ _) _ (p := ⟨w1.heap.size, 0, none⟩) (.inl ⟨by simp; omega, by simp⟩) _), ⟨HPN.out, (below_dn1R HB.out m).setCell (p := ⟨w1.heap.size, 0, none⟩) (by simp; omega) _⟩, ?_, ⟨?_, ?_⟩, ?_⟩
        · rw [cell_set_far _ trivial (by simp; omega)]; exact hcp
        · rw [lastV_snoc]; exact World.cell?_setCell_same' _ _ _ (by show (W.cell? _).isSome = true; rw [HC1.out]; rfl)
        · rw [World.frozen?_setCell]; exact HFF.out
        · rw [lastV_snoc, lastL_snoc]
          refine SliceR.keep HX.out (fun q hq => ?_) (fun k hk => ⟨hk.1, by have := hk.2; simpa using this⟩)
          have h1 : W5.heap.size + 2 ≤ q.block := hq.1
          have := HZ5.out
          rw [cell_set_far _ trivial (by simp; omega)]
          rfl
    case done =>
      rintro D xs W hD hxs ⟨⟨hp1, hb⟩, hcp, ⟨hc1, hf1⟩, hlv⟩ hK
      have HO := hid (HLT.out xs hp1 (by rw [hxs, HL.out]))
      have HNX : Hid (∀ q' x, xs = q' ++ [x] → 0 < x.1.length) := fun q' x h => HNE.out x.1 (by rw [← HL.out, ← hxs, h]; simp)
      have HB := hid (hb.trans (belowK_b (w := w) (Nat.le_refl _) W D _ (.deferred none) (by have := hb5.size; omega) hK rfl rfl))
      have HLV := hid hlv
      have hn := fun w => Lib.run_eql_slice_nil (P := Tryz.prog) w
      clear hb hxs hp1 hlv hf1 hcp
      rcases List.eq_nil_or_concat xs with rfl | ⟨q', x, rfl⟩
      · have hlv0 : lastV ([] : List PosV) = .slice none 0 0 := rfl
        rw [hlv0] at hc1
        clear hlv0
        gi_wp2
        refine ⟨by simp, .inl ⟨_, _, rfl, run_takeDeferred hK, ?_⟩⟩
        rw [HRN.out _ HO.out rfl]
        exact ⟨.tuple #[.slice none 0 0, .int .i64 8], by simp [results, Tryz.results94, go_sem], HB.out, _, rfl, SliceR.nil_ 0 (by simp [maxLen]) none⟩
      · rw [List.concat_eq_append] at *
        have HNX2 := HNX.out q' x rfl
        have hl := HLV.out
        rw [lastV_snoc, lastL_snoc] at hl
        rw [lastV_snoc] at hc1
        obtain ⟨xl, xv⟩ := x
        obtain ⟨Ax, cx, rfl, hx⟩ := prd_form hl
        dsimp only at hc1
        obtain ⟨ad, rfl⟩ : ∃ ad, Ax = some ad := by
          obtain ⟨_, _, cs, e, _, _, h7, h8⟩ := hx
          cases e
          exact h7.some_ (by rw [h8.len]; simpa [intE] using HNX2)
        have HX := hid (prd_own (W5.heap.size + 2) (xl, .slice (some ad) xl.length cx) W D _ (.deferred none) hK rfl hx)
        clear hl hx HNX2
        gi_wp2
        refine ⟨by simp, .inl ⟨_, _, rfl, run_takeDeferred hK, ?_⟩⟩
        rw [HRS.out _ HO.out _ _ rfl]
        exact ⟨.tuple #[.slice (some ad) xl.length cx, .int .i64 0], by simp [results, Tryz.results94, go_sem], HB.out, _, rfl, SliceR.wide HX.out (fun k hk => ⟨by have := hb5.size; omega, hk.2⟩)⟩
    case stop =>
      rintro D c pre W hD hpre ⟨⟨rfl, xs, y, rfl, hp1, hy, hc1, hlv⟩, hb⟩ hK
      have HO := hid (HLS.out xs y hp1 hy (by rw [← HL.out]; exact hpre))
      have HNX : Hid (∀ q' x, xs = q' ++ [x] → 0 < x.1.length) := fun q' x h => HNE.out x.1 (by
        rw [HL.out, h] at hpre
        exact hpre.subset (by simp))
      have HB := hid (hb.trans (belowK_b (w := w) (Nat.le_refl _) W D _ (.deferred none) (by have := hb5.size; omega) hK rfl rfl))
      have HLV := hid hlv
      have hn := fun w => Lib.run_eql_slice_nil (P := Tryz.prog) w
      clear hb hpre hp1 hlv hy
      rcases List.eq_nil_or_concat xs with rfl | ⟨q', x, rfl⟩
      · have hlv0 : lastV ([] : List PosV) = .slice none 0 0 := rfl
        rw [hlv0] at hc1
        clear hlv0
        gi_wp2
        refine ⟨by simp, .inl ⟨_, _, rfl, run_takeDeferred hK, ?_⟩⟩
        rw [HRN.out _ HO.out rfl]
        exact ⟨.tuple #[.slice none 0 0, .int .i64 8], by simp [results, Tryz.results94, go_sem], HB.out, _, rfl, SliceR.nil_ 0 (by simp [maxLen]) none⟩
      · rw [List.concat_eq_append] at *
        have HNX2 := HNX.out q' x rfl
        have hl := HLV.out
        rw [lastV_snoc, lastL_snoc] at hl
        rw [lastV_snoc] at hc1
        obtain ⟨xl, xv⟩ := x
        obtain ⟨Ax, cx, rfl, hx⟩ := prd_form hl
        dsimp only at hc1
        obtain ⟨ad, rfl⟩ : ∃ ad, Ax = some ad := by
          obtain ⟨_, _, cs, e, _, _, h7, h8⟩ := hx
          cases e
          exact h7.some_ (by rw [h8.len]; simpa [intE] using HNX2)
        have HX := hid (prd_own (W5.heap.size + 2) (xl, .slice (some ad) xl.length cx) W D _ (.deferred none) hK rfl hx)
        clear hl hx HNX2
        gi_wp2
        refine ⟨by simp, .inl ⟨_, _, rfl, run_takeDeferred hK, ?_⟩⟩
        rw [HRS.out _ HO.out _ _ rfl]
        exact ⟨.tuple #[.slice (some ad) xl.length cx, .int .i64 0], by simp [results, Tryz.results94, go_sem], HB.out, _, rfl, SliceR.wide HX.out (fun k hk => ⟨by have := hb5.size; omega, hk.2⟩)⟩
  · have HR : Hid (prevR t p = ([], chkR (validS t) (posIn t p))) := by show _ = _; rw [prevR, if_neg hck]
    have d1 : (chkR (validS t) (posIn t p) != 0) = true := by simpa using hck
    rw [HR.out]
    clear HR hck
    generalize chkR (validS t) (posIn t p) = c at *
    obtain ⟨tk, tx, tc, ts⟩ := t
    simp only [Tree.kind, Tree.text, Tree.cols, Tree.kids] at *
    go_enter Tryz.func94, Tryz.ntmps94
    go_wp2_with fail
    rw [← HW4.out]
    refine HCK.out.mono ?_
    rintro e w1 ⟨rfl, hb1⟩
    have HB1 := hid (HB0.out.trans (hb1.mono HB0.out.size))
    clear hb1
    go_wp2_with fail
    exact bodyPost_ret (v := .tuple #[.slice none 0 0, .int .i64 c]) (by simp [results, Tryz.results94, go_sem]) rfl ⟨HB1.out, _, rfl, SliceR.nil_ 0 (by simp [maxLen]) none⟩
end Go.Proofs.YtmahiejfniaahaaGreatDoor
set_option linter.unusedVariables false
set_option linter.unusedSimpArgs false
set_option maxRecDepth 100000
namespace Go.Proofs.YtmahiejfniaahaaGreatDoor
open Go Go.RowKit Go.Shelf
attribute [local go_sem] Oper.semAt_some
def atL (L : List (List Int)) (i : Int) : List Int × Int := if 0 ≤ i then (match L[i.toNat]? with | some q => (q, 0) | none => ([], 2)) else ([], 2)
def atR (t : Tree) (i : Int) : List Int × Int := if validS t then atL (allS [] t) i else ([], 1)
end Go.Proofs.YtmahiejfniaahaaGreatDoor
set_option linter.unusedVariables false
set_option linter.unusedSimpArgs false
namespace Go.Proofs.YtmahiejfniaahaaGreatDoor
theorem split_lt {L : List (List Int)} (h : L.Pairwise ltS) {i : Nat} (hi : i < L.length) : (∀ a ∈ L.take i, ltS a L[i]) ∧ (∀ b ∈ L.drop (i + 1), ltS L[i] b) := by
  have e : L.take i ++ L[i] :: L.drop (i + 1) = L := by rw [← List.drop_eq_getElem_cons hi, List.take_append_drop]
  rw [← e, List.pairwise_append, List.pairwise_cons] at h
  exact ⟨fun a ha => h.2.2 a ha _ (List.mem_cons_self), h.2.1.1⟩
theorem ltS_ne {a b : List Int} (h : ltS a b) : a ≠ b := fun e => by subst e; unfold ltS at h; rw [cmpS_self] at h; omega
theorem take_at {L : List (List Int)} (h : L.Pairwise ltS) {i : Nat} (hi : i < L.length) {p : List Int} (hp : L[i] = p) : L.takeWhile (fun q => decide (q ≠ p)) = L.take i := by
  subst hp
  obtain ⟨h1, _⟩ := split_lt h hi
  have e : L.takeWhile (fun q => decide (q ≠ L[i])) = (L.take i ++ L[i] :: L.drop (i + 1)).takeWhile (fun q => decide (q ≠ L[i])) := by rw [← List.drop_eq_getElem_cons hi, List.take_append_drop]
  rw [e, List.takeWhile_append_of_pos (fun a ha => by simpa using ltS_ne (h1 a ha)), List.takeWhile_cons_of_neg (by simp), List.append_nil]
theorem next_at {L : List (List Int)} (h : L.Pairwise ltS) {i : Nat} (hi : i < L.length) {p : List Int} (hp : L[i] = p) : nextS L p = L[i + 1]? := by
  subst hp
  obtain ⟨h1, h2⟩ := split_lt h hi
  have e : nextS L L[i] = (L.take i ++ L[i] :: L.drop (i + 1)).find? (fun q => decide (0 < cmpS q L[i])) := by rw [← List.drop_eq_getElem_cons hi, List.take_append_drop]; rfl
  rw [e, List.find?_append, List.find?_eq_none.2 (fun a ha => by have := h1 a ha; unfold ltS at this; simp; omega), List.find?_cons_of_neg (by simp [cmpS_self])]
  simp only [Option.none_or]
  rw [← List.head?_drop]
  cases hd : L.drop (i + 1) with
  | nil => rfl
  | cons b r =>
    have := h2 b (by rw [hd]; exact List.mem_cons_self)
    unfold ltS at this
    rw [cmpS_swap b L[i]] at this
    rw [List.find?_cons_of_pos (by simp; omega)]; rfl
theorem idxS_spec {L : List (List Int)} {p : List Int} {i : Nat} (h : idxS L p = some i) : ∃ hi : i < L.length, L[i] = p := by
  unfold idxS at h
  obtain ⟨hi, h1⟩ := List.findIdx?_eq_some_iff_getElem.1 h
  exact ⟨hi, by have := h1.1; simpa [cmpS_zero] using this⟩
def stepO (L : List (List Int)) (o : Option Nat) (d : Int) : List Int × Int := match o with | some i => (if (atL L ((i : Int) + d)).2 = 0 then ((atL L ((i : Int) + d)).1, 0) else ([], 8)) | none => ([], 2)
def stepR (t : Tree) (p : List Int) (d : Int) : List Int × Int := if validS t then stepO (allS [] t) (idxS (allS [] t) p) d else ([], 1)
theorem atL_nat (L : List (List Int)) (k : Nat) {i : Int} (h : i = (k : Int)) : atL L i = (match L[k]? with | some q => (q, 0) | none => ([], 2)) := by
  subst h; rw [atL, if_pos (by omega), Int.toNat_natCast]; all_goals (cases L[k]? <;> rfl)
theorem idx_cases (t : Tree) (p : List Int) : (posIn t p = true ∧ ∃ i, idxS (allS [] t) p = some i ∧ ∃ hi : i < (allS [] t).length, (allS [] t)[i] = p) ∨ (posIn t p = false ∧ idxS (allS [] t) p = none) := by
  have h := idxS_isSome t p
  cases hp : posIn t p
  · rw [hp] at h; exact .inr ⟨rfl, by cases hq : idxS (allS [] t) p with | none => rfl | some i => rw [hq] at h; cases h⟩
  · rw [hp] at h
    cases hq : idxS (allS [] t) p with
    | none => rw [hq] at h; cases h
    | some i => exact .inl ⟨rfl, i, rfl, idxS_spec hq⟩
theorem next_eq (t : Tree) (p : List Int) : nextR t p = stepR t p 1 := by
  unfold nextR stepR chkR
  cases hv : validS t
  · simp
  · rcases idx_cases t p with ⟨hp, i, hi, hl, he⟩ | ⟨hp, hi⟩
    · rw [hp, hi]
      simp only [if_true, stepO]
      rw [next_at (allS_sorted [] t) hl he, atL_nat (allS [] t) (i + 1) (by omega)]
      cases (allS [] t)[i + 1]? <;> simp
    · rw [hp, hi]; simp [stepO]
theorem prev_eq (t : Tree) (p : List Int) : prevR t p = stepR t p (-1) := by
  unfold prevR stepR chkR
  cases hv : validS t
  · simp
  · rcases idx_cases t p with ⟨hp, i, hi, hl, he⟩ | ⟨hp, hi⟩
    · rw [hp, hi]
      simp only [if_true, stepO]
      rw [lastO, take_at (allS_sorted [] t) hl he]
      rcases i with _ | i
      · simp [optR, atL]
      · rw [atL_nat (allS [] t) i (by omega), List.getLast?_eq_getElem?]
        have : ((allS [] t).take (i + 1)).length = i + 1 := by simp; omega
        rw [this, Nat.add_sub_cancel, List.getElem?_take_of_lt (by omega)]
        cases (allS [] t)[i]? <;> simp [optR]
    · rw [hp, hi]; simp [stepO]
end Go.Proofs.YtmahiejfniaahaaGreatDoor
set_option linter.unusedVariables false
set_option linter.unusedSimpArgs false
namespace Go.Proofs.YtmahiejfniaahaaGreatDoor
theorem allS_first (t : Tree) : (allS [] t)[0]? = some [0] := by
  rw [allS_eq]; cases h : t.kids with
  | nil => simp [itemsS]
  | cons u us => rw [itemsS_cons]; simp
theorem allS_at_first (t : Tree) (h : 0 < (allS [] t).length) : (allS [] t)[0] = [0] := by
  have := allS_first t
  rw [List.getElem?_eq_getElem h] at this
  exact Option.some.inj this
theorem allS_pos (t : Tree) : 0 < (allS [] t).length := by rw [allS_len]; exact cntS_pos t
end Go.Proofs.YtmahiejfniaahaaGreatDoor
