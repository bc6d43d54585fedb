/- position.Next. -/
import Derived.Test.YtbiloghgkmknbaaGreatDoorGJ
import Derived.Test.YtbiloghgkmknbaaGreatDoorGK
import Derived.Test.YtbiloghgkmknbaaGreatDoorGQ
import Derived.Test.YtbiloghgkmknbaaGreatDoorIdxv
set_option linter.unusedVariables false
set_option linter.unusedSimpArgs false
set_option maxRecDepth 100000
namespace Go.Proofs.YtbiloghgkmknbaaGreatDoor
open Go Go.RowKit Go.Shelf
attribute [local go_sem] Oper.semAt_some

def nextS (L : List (List Int)) (p : List Int) : Option (List Int) := L.find? (fun q => decide (0 < cmpS q p))
def nextR (t : Tree) (p : List Int) : List Int × Int :=
  if chkR (validS t) (posIn t p) = 0 then (match nextS (allS [] t) p with | some q => (q, 0) | none => ([], 8)) else ([], chkR (validS t) (posIn t p))

theorem find_pre {L : List (List Int)} {pre : List PosV} {x : PosV} (f : List Int → Bool) (h : (pre ++ [x]).map Prod.fst <+: L) (h1 : ∀ y ∈ pre, f y.1 = false) (h2 : f x.1 = true) : L.find? f = some x.1 := by
  obtain ⟨r, rfl⟩ := h
  rw [List.find?_append, List.map_append, List.find?_append]
  have : (pre.map Prod.fst).find? f = none := by rw [List.find?_eq_none]; intro q hq; obtain ⟨y, hy, rfl⟩ := List.mem_map.1 hq; simp [h1 y hy]
  rw [this]
  simp [h2]
theorem find_none {L : List (List Int)} {pre : List PosV} (f : List Int → Bool) (h : pre.map Prod.fst = L) (h1 : ∀ y ∈ pre, f y.1 = false) : L.find? f = none := by
  subst h
  rw [List.find?_eq_none]; intro q hq; obtain ⟨y, hy, rfl⟩ := List.mem_map.1 hq; simp [h1 y hy]

set_option maxHeartbeats 4000000 in
theorem next_any (t : Tree) (p : List Int) (A : Option Addr) (cap : Nat) (b : Value) (w : World) (hv : SliceR treeE w (Lt w.heap.size) t.kids (.slice A t.kids.length cap)) (htx : t.text.size ≤ maxLen) (hp : IntsR w (Lt w.heap.size) p b) :
    Calls Tryz.prog 95 #[.agg #[.int .i64 t.kind, .string t.text, .int .i64 t.cols, .slice A t.kids.length cap], b] w (PosRes w (nextR t p)) := by
  obtain ⟨Ap, cp, rfl⟩ := hp.form
  have HW4 : ∃ W4, W4 = (((w.alloc (Obj.cells #[.int .i64 t.kind, .string t.text, .int .i64 t.cols, .slice A t.kids.length cap] 24)).alloc (.cells #[.slice Ap p.length cp] 26)).alloc (.cells #[.slice none 0 0] 26)).alloc (.cells #[.int .i64 0] 33) := ⟨_, rfl⟩
  obtain ⟨W4, hW4⟩ := HW4
  have hb0 : Below w.heap.size w W4 := by rw [hW4]; exact ((((Below.refl _ w).alloc (Nat.le_refl _) _).alloc (by simp) _).alloc (by simp; omega) _).alloc (by simp; omega) _
  have hs4 : W4.heap.size = w.heap.size + 4 := by rw [hW4]; simp
  have HB0 := hid hb0
  have HCK : Hid (Calls Tryz.prog 122 #[.agg #[.int .i64 t.kind, .string t.text, .int .i64 t.cols, .slice A t.kids.length cap], .slice Ap p.length cp] W4 fun e w' => e = .returned (.int .i64 (chkR (validS t) (posIn t p))) ∧ Below W4.heap.size W4 w') :=
    check_any t p A cap _ W4 (hv.below hb0 hb0.size) htx (hp.below hb0 hb0.size)
  have HWF : Hid (w.heap.size + 1 + 1 + 1 < W4.heap.size) := by rw [hs4]; show _ < _; omega
  have KB : Hid (∀ W, Below W4.heap.size W4 W → NBox W w.heap.size t.kind t.cols t.text (.slice A t.kids.length cap) ∧ W.cell? ⟨w.heap.size + 1, 0, none⟩ = some (.slice Ap p.length cp) ∧
      (W.cell? ⟨w.heap.size + 1 + 1, 0, none⟩ = some (.slice none 0 0) ∧ W.frozen? ⟨w.heap.size + 1 + 1, 0, none⟩ = false) ∧ (W.cell? ⟨w.heap.size + 1 + 1 + 1, 0, none⟩ = some (.int .i64 0) ∧ W.frozen? ⟨w.heap.size + 1 + 1 + 1, 0, none⟩ = false)) := by
    intro W hW
    have hc := (bcell hW).1
    have hf := (bcell hW).2
    rw [hs4] at hc hf
    unfold NBox
    rw [hc _ _ (by omega), hc _ _ (by omega), hc _ _ (by omega), hc _ _ (by omega), hc _ _ (by omega), hc _ _ (by omega), hc _ _ (by omega), hf _ _ (by omega), hf _ _ (by omega), hW4]
    go_simp
  have HVK : Hid (∀ W, Below w.heap.size w W → SliceR treeE W (Lt w.heap.size) t.kids (.slice A t.kids.length cap)) := fun W h => hv.below h (Nat.le_refl _)
  have HPK : Hid (∀ W, Below w.heap.size w W → IntsR W (Lt w.heap.size) p (.slice Ap p.length cp)) := fun W h => hp.below h (Nat.le_refl _)
  have HVC : Hid (validS t = true → countS t ≤ 400000) := fun h => by have := (valid_count h).1; omega
  have HS4 := hid hs4
  have HW4 := hid hW4
  have hwf := HWF.out
  clear hv hp hb0 hs4 htx hW4
  by_cases hck : chkR (validS t) (posIn t p) = 0
  · have hb12 : validS t = true ∧ posIn t p = true := by
      unfold chkR at hck; cases h1 : validS t <;> cases h2 : posIn t p <;> simp_all
    have hcnt := HVC.out hb12.1
    have HCNT := hid hcnt
    have HR : Hid (nextR t p = (match nextS (allS [] t) p with | some q => (q, 0) | none => ([], 8))) := by show _ = _; rw [nextR, if_pos hck]
    rw [hck] at HCK
    generalize hL : allS [] t = L at HR
    have HL := hid hL
    obtain ⟨r, hr⟩ : ∃ r, r = ((match nextS L p with | some q => (q, 0) | none => ([], 8)) : List Int × Int) := ⟨_, rfl⟩
    have HRN : Hid (nextS L p = none → r = ([], 8)) := fun h => by rw [hr, h]
    have HRS : Hid (∀ q, nextS L p = some q → r = (q, 0)) := fun q h => by rw [hr, h]
    rw [HR.out, ← hr]
    clear hr
    have HPL : Hid (∀ x ∈ L, x.length ≤ 1000000) := by
      subst hL; intro x hx
      have := (posIn_bd t x (mem_all.1 hx)).1
      have := depth_le_count t
      omega
    obtain ⟨tk, tx, tc, ts⟩ := t
    simp only [Tree.kind, Tree.text, Tree.cols, Tree.kids] at *
    clear hb12 hcnt hck hL HR
    refine (callsIn_wide (n := 0)).1 ?_
    refine callsIn_of_wp_marks Tryz.func95 rfl trivial ?_ rfl
    simp only [Tryz.ntmps95, List.size_toArray, List.length_cons, List.length_nil, Nat.reduceAdd, Nat.reduceSub, Array.replicate_succ, Array.replicate_zero, List.push_toArray, List.append_toArray, List.nil_append, List.cons_append]
    gi_wp2_with fail
    rw [← HW4.out]
    refine ⟨trivial, rfl, ?_⟩
    refine (callsIn_wide.2 HCK.out).mono ?_
    rintro e w1 ⟨rfl, hb1⟩
    have HB1 := hid (HB0.out.trans (hb1.mono HB0.out.size))
    have hz : w.heap.size + 1 + 1 + 1 < w1.heap.size := Nat.lt_of_lt_of_le HWF.out hb1.size
    obtain ⟨⟨q0, q00, q01, q02⟩, qq1, ⟨q2, f2⟩, ⟨q3, f3⟩⟩ := KB.out w1 hb1
    clear hb1
    gi_wp2_with (refine ⟨trivial, rfl, ?_⟩; gi_at_call 88; refine (places_any _ ⟨_, _, _, _, rfl⟩ _ _).mono ?_; rintro e w' ⟨rfl, rfl⟩)
    have HC3 : Hid ((w1.alloc (.cells #[.int .i64 tk, .string tx, .int .i64 tc, .slice A ts.length cap] 24)).cell? ⟨w1.heap.size, 3, none⟩ = some (.slice A ts.length cap)) := by show _ = _; rw [World.cell?_alloc_new]; rfl
    have hb5 : Below w.heap.size w (w1.alloc (.cells #[.int .i64 tk, .string tx, .int .i64 tc, .slice A ts.length cap] 24)) := HB1.out.alloc HB1.out.size _
    have hz5 : (w1.alloc (.cells #[.int .i64 tk, .string tx, .int .i64 tc, .slice A ts.length cap] 24)).heap.size = w1.heap.size + 1 := by simp
    have q1' := cell_al qq1 (.cells #[.int .i64 tk, .string tx, .int .i64 tc, .slice A ts.length cap] 24)
    have q2' := frozen_al ⟨q2, f2⟩ (.cells #[.int .i64 tk, .string tx, .int .i64 tc, .slice A ts.length cap] 24)
    have q3' := frozen_al ⟨q3, f3⟩ (.cells #[.int .i64 tk, .string tx, .int .i64 tc, .slice A ts.length cap] 24)
    generalize (w1.alloc (.cells #[.int .i64 tk, .string tx, .int .i64 tc, .slice A ts.length cap] 24)) = W5 at *
    clear q0 q00 q01 q02 qq1 q2 f2 q3 f3
    refine wpIn_places 7 (.mk tk tx tc ts) w.heap.size (w.heap.size + 4) w1.heap.size A cap rfl (by omega) (by omega) (by omega) HC3.out (HVK.out _ hb5) HCNT.out
      (fun pre W => ((∀ y ∈ pre, cmpS y.1 p ≤ 0) ∧ Below w.heap.size w W) ∧ W.cell? ⟨w.heap.size + 1, 0, none⟩ = some (.slice Ap p.length cp) ∧
        (W.cell? ⟨w.heap.size + 1 + 1, 0, none⟩ = some (.slice none 0 0) ∧ W.frozen? ⟨w.heap.size + 1 + 1, 0, none⟩ = false) ∧ (W.cell? ⟨w.heap.size + 1 + 1 + 1, 0, none⟩ = some (.int .i64 0) ∧ W.frozen? ⟨w.heap.size + 1 + 1 + 1, 0, none⟩ = false))
      (fun c pre W => (c = .ret ∧ ∃ q x, pre = q ++ [x] ∧ (∀ y ∈ q, cmpS y.1 p ≤ 0) ∧ 0 < cmpS x.1 p ∧ W.cell? ⟨w.heap.size + 1 + 1, 0, none⟩ = some x.2 ∧ W.cell? ⟨w.heap.size + 1 + 1 + 1, 0, none⟩ = some (.int .i64 0) ∧ PRd (W5.heap.size + 2) x W) ∧ Below w.heap.size w W)
      ?hI ?hIx ⟨⟨by simp, hb5⟩, q1', q2', q3'⟩ ?assign ?body ?done ?stop
    case hI => exact OwnFrom.and (OwnFrom.and (own_pure _ _) (ownFrom_below (Nat.le_refl _) hb5.size)) (OwnFrom.and (own_cell _ _ _) (OwnFrom.and (own_box _ _ _) (own_box _ _ _)))
    case hIx =>
      intro c
      refine OwnFrom.and ?_ (ownFrom_below (Nat.le_refl _) hb5.size)
      rintro s A B row ⟨hc, q, x, hs, h1, h2, h3, h4, h5⟩ hg hr
      exact ⟨hc, q, x, hs, h1, h2, cell_kept h3 hg (fun r e => (hr r e).2), cell_kept h4 hg (fun r e => (hr r e).2), own_ints _ (W5.heap.size + 2) (fun _ => x.1) (fun _ => x.2) s A B row h5 hg hr⟩
    case assign =>
      intro l x W K hK
      gi_wp2
      exact hK
    case body =>
      rintro l pre ⟨xl, xv⟩ W ⟨⟨hp1, hb⟩, hc1, ⟨hc2, hf2⟩, hc3, hf3⟩ hx hpre
      obtain ⟨Ax, cx, rfl, hx⟩ := prd_form hx
      dsimp only
      have HP1 := hid hp1
      have HB := hid hb
      have HX := hid hx
      have hzz : w.heap.size + 1 + 1 + 1 < W.heap.size := World.block_lt_of_cell? W _ hc3
      have HC : Hid (Calls Tryz.prog 124 #[.slice Ax xl.length cx, .slice Ap p.length cp] W fun e w' => e = .returned (.int .i64 (cmpS xl p)) ∧ W = w') := scmp_q xl p W (.slice Ax xl.length cx) _ _ _ hx (HPK.out W hb)
      clear hp1 hb hx hpre
      by_cases hgt : 0 < cmpS xl p
      · have dd : decide (0 < cmpS xl p) = true := by simpa using hgt
        have HG := hid hgt
        have dd2 : decide (cmpS xl p ≤ 0) = false := by simp; omega
        clear hgt
        generalize hq : cmpS xl p = z at HC dd dd2 HG
        have HZ := hid hq
        clear hq
        gi_wp2_with (refine ⟨trivial, rfl, ?_⟩; gi_at_call 124; refine (CallsIn.inRound l (callsIn_wide.2 HC.out)).mono ?_; rintro e w' ⟨rfl, rfl⟩)
        have r0 : ((W.setCell ⟨w.heap.size + 1 + 1, 0, none⟩ (.slice Ax xl.length cx)).setCell ⟨w.heap.size + 1 + 1 + 1, 0, none⟩ (.int .i64 0)).cell? ⟨w.heap.size + 1 + 1, 0, none⟩ = some (.slice Ax xl.length cx) := by go_simp
        have r1 : ((W.setCell ⟨w.heap.size + 1 + 1, 0, none⟩ (.slice Ax xl.length cx)).setCell ⟨w.heap.size + 1 + 1 + 1, 0, none⟩ (.int .i64 0)).cell? ⟨w.heap.size + 1 + 1 + 1, 0, none⟩ = some (.int .i64 0) := by go_simp
        have hb2 := (HB.out.setCell (p := ⟨w.heap.size + 1 + 1, 0, none⟩) (by simp; omega) (.slice Ax xl.length cx)).setCell (p := ⟨w.heap.size + 1 + 1 + 1, 0, none⟩) (by simp; omega) (.int .i64 0)
        refine ⟨(KeepsOthers.setCell _ _ _).trans (KeepsOthers.setCell _ _ _), ⟨rfl, pre, _, rfl, HP1.out, by rw [HZ.out]; exact HG.out, r0, r1, ?_⟩, hb2⟩
        refine SliceR.keep HX.out (fun q hq => ?_) (fun k hk => ⟨hk.1, by simpa using hk.2⟩)
        have h1 : W5.heap.size + 2 ≤ q.block := hq.1
        rw [cell_set_far _ trivial (by simp; omega), cell_set_far _ trivial (by simp; omega)]
      · have dd : decide (0 < cmpS xl p) = false := by simpa using hgt
        have dd2 : decide (cmpS xl p ≤ 0) = true := by simp; omega
        have HG : Hid (cmpS xl p ≤ 0) := by show _ ≤ _; omega
        clear hgt
        generalize hq : cmpS xl p = z at HC dd dd2 HG
        have HZ := hid hq
        clear hq
        gi_wp2_with (refine ⟨trivial, rfl, ?_⟩; gi_at_call 124; refine (CallsIn.inRound l (callsIn_wide.2 HC.out)).mono ?_; rintro e w' ⟨rfl, rfl⟩)
        refine ⟨KeepsOthers.refl _, But.refl _ _, ⟨?_, HB.out⟩, hc1, ⟨hc2, hf2⟩, hc3, hf3⟩
        intro y hy
        rcases List.mem_append.1 hy with hy | hy
        · exact HP1.out y hy
        · obtain rfl := List.mem_singleton.1 hy
          show cmpS xl p ≤ 0
          rw [HZ.out]; exact HG.out
    case done =>
      rintro D xs W hD hxs ⟨⟨hp1, hb⟩, hc1, ⟨hc2, hf2⟩, hc3, hf3⟩ hK
      have HN := hid (find_none (L := L) (fun q => decide (0 < cmpS q p)) (by rw [hxs, HL.out]) (fun y hy => by simpa using hp1 y hy))
      have HB := hid hb
      clear hp1 hb hxs
      have hzz : w.heap.size + 1 + 1 + 1 < W.heap.size := World.block_lt_of_cell? W _ hc3
      gi_wp2
      have r0 : ((W.setCell ⟨w.heap.size + 1 + 1, 0, none⟩ (.slice none 0 0)).setCell ⟨w.heap.size + 1 + 1 + 1, 0, none⟩ (.int .i64 8)).cell? ⟨w.heap.size + 1 + 1, 0, none⟩ = some (.slice none 0 0) := by go_simp
      have r1 : ((W.setCell ⟨w.heap.size + 1 + 1, 0, none⟩ (.slice none 0 0)).setCell ⟨w.heap.size + 1 + 1 + 1, 0, none⟩ (.int .i64 8)).cell? ⟨w.heap.size + 1 + 1 + 1, 0, none⟩ = some (.int .i64 8) := by go_simp
      have hb2 := (HB.out.setCell (p := ⟨w.heap.size + 1 + 1, 0, none⟩) (by simp; omega) (.slice none 0 0)).setCell (p := ⟨w.heap.size + 1 + 1 + 1, 0, none⟩) (by simp; omega) (.int .i64 8)
      have hK2 := ((KeepsOthers.setCell W ⟨w.heap.size + 1 + 1, 0, none⟩ (.slice none 0 0)).trans (KeepsOthers.setCell _ ⟨w.heap.size + 1 + 1 + 1, 0, none⟩ (.int .i64 8))).same D _ hK rfl
      generalize ((W.setCell ⟨w.heap.size + 1 + 1, 0, none⟩ (.slice none 0 0)).setCell ⟨w.heap.size + 1 + 1 + 1, 0, none⟩ (.int .i64 8)) = W2 at *
      have r0' := cell_put r0 (.deferred none) hK2 rfl
      have r1' := cell_put r1 (.deferred none) hK2 rfl
      have hb3 := hb2.trans (belowK_b (w := w) (Nat.le_refl _) W2 D _ (.deferred none) (by omega) hK2 rfl rfl)
      refine ⟨by simp, .inl ⟨_, _, rfl, run_takeDeferred hK2, ?_⟩⟩
      generalize W2.putObj D (.deferred none) = W3 at *
      rw [HRN.out HN.out]
      exact ⟨.tuple #[.slice none 0 0, .int .i64 8], by simp [results, Tryz.results95, go_sem, r0', r1'], hb3, _, rfl, SliceR.nil_ 0 (by simp [maxLen]) none⟩
    case stop =>
      rintro D c pre W hD hpre ⟨⟨rfl, q, ⟨xl, xv⟩, rfl, h1, h2, h3, h4, hx⟩, hb⟩ hK
      have HN := hid (find_pre (L := L) (fun q => decide (0 < cmpS q p)) (by rw [← HL.out]; exact hpre) (fun y hy => by simpa using h1 y hy) (by simpa using h2))
      obtain ⟨Ax, cx, rfl, hx⟩ := prd_form hx
      have HB := hid hb
      have HX := hid hx
      clear hb h1 h2 hpre hx
      gi_wp2
      have r0' := cell_put h3 (.deferred none) hK rfl
      have r1' := cell_put h4 (.deferred none) hK rfl
      have hb3 := HB.out.trans (belowK_b (w := w) (Nat.le_refl _) W D _ (.deferred none) (by omega) hK rfl rfl)
      have hx3 := prd_own (W5.heap.size + 2) (xl, .slice Ax xl.length cx) W D _ (.deferred none) hK rfl HX.out
      refine ⟨by simp, .inl ⟨_, _, rfl, run_takeDeferred hK, ?_⟩⟩
      generalize W.putObj D (.deferred none) = W3 at *
      rw [HRS.out _ HN.out]
      exact ⟨.tuple #[.slice Ax xl.length cx, .int .i64 0], by simp [results, Tryz.results95, go_sem, r0', r1'], hb3, _, rfl, SliceR.wide hx3 (fun k hk => ⟨by omega, hk.2⟩)⟩
  · have HR : Hid (nextR t p = ([], chkR (validS t) (posIn t p))) := by show _ = _; rw [nextR, if_neg hck]
    have d1 : (chkR (validS t) (posIn t p) != 0) = true := by simpa using hck
    have HCK1 := HCK
    rw [HR.out]
    clear HR hck HCK
    generalize chkR (validS t) (posIn t p) = c at *
    obtain ⟨tk, tx, tc, ts⟩ := t
    simp only [Tree.kind, Tree.text, Tree.cols, Tree.kids] at *
    go_enter Tryz.func95, Tryz.ntmps95
    go_wp2_with fail
    rw [← HW4.out]
    refine HCK1.out.mono ?_
    rintro e w1 ⟨rfl, hb1⟩
    have HB1 := hid (HB0.out.trans (hb1.mono HB0.out.size))
    have hz : w.heap.size + 1 + 1 + 1 < w1.heap.size := Nat.lt_of_lt_of_le HWF.out hb1.size
    obtain ⟨_, _, ⟨q2, f2⟩, ⟨q3, f3⟩⟩ := KB.out w1 hb1
    clear hb1
    go_wp2_with fail
    have r0 : ((w1.setCell ⟨w.heap.size + 1 + 1, 0, none⟩ (.slice none 0 0)).setCell ⟨w.heap.size + 1 + 1 + 1, 0, none⟩ (.int .i64 c)).cell? ⟨w.heap.size + 1 + 1, 0, none⟩ = some (.slice none 0 0) := by go_simp
    have r1 : ((w1.setCell ⟨w.heap.size + 1 + 1, 0, none⟩ (.slice none 0 0)).setCell ⟨w.heap.size + 1 + 1 + 1, 0, none⟩ (.int .i64 c)).cell? ⟨w.heap.size + 1 + 1 + 1, 0, none⟩ = some (.int .i64 c) := by go_simp
    have hb2 : Below w.heap.size w ((w1.setCell ⟨w.heap.size + 1 + 1, 0, none⟩ (.slice none 0 0)).setCell ⟨w.heap.size + 1 + 1 + 1, 0, none⟩ (.int .i64 c)) := (HB1.out.setCell (p := ⟨w.heap.size + 1 + 1, 0, none⟩) (by simp; omega) _).setCell (p := ⟨w.heap.size + 1 + 1 + 1, 0, none⟩) (by simp; omega) _
    generalize ((w1.setCell ⟨w.heap.size + 1 + 1, 0, none⟩ (.slice none 0 0)).setCell ⟨w.heap.size + 1 + 1 + 1, 0, none⟩ (.int .i64 c)) = W2 at *
    exact bodyPost_ret (v := .tuple #[.slice none 0 0, .int .i64 c]) (by simp [results, Tryz.results95, go_sem, r0, r1]) rfl ⟨hb2, _, rfl, SliceR.nil_ 0 (by simp [maxLen]) none⟩
end Go.Proofs.YtbiloghgkmknbaaGreatDoor
