/- position.At. -/
import Derived.Test.YtognlokeadlpbaaPos4
set_option linter.unusedVariables false
set_option linter.unusedSimpArgs false
set_option maxRecDepth 100000
namespace Go.Proofs.Ytognlokeadlpbaa
open Go Go.RowKit Go.Shelf
attribute [local go_sem] Oper.semAt_some

def ExSnoc (P : List PosV → PosV → Prop) (pre : List PosV) : Prop := ∃ q x, pre = q ++ [x] ∧ P q x
def atL (L : List (List Int)) (i : Int) : List Int × Int := if 0 ≤ i then (match L[i.toNat]? with | some q => (q, 0) | none => ([], 2)) else ([], 2)
def atR (t : Tree) (i : Int) : List Int × Int := if validS t then atL (allS [] t) i else ([], 1)
theorem atL_some {L : List (List Int)} {q : List PosV} {x : PosV} {i : Int} (h : (q ++ [x]).map Prod.fst <+: L) (hi : (q.length : Int) = i) : atL L i = (x.1, 0) := by
  obtain ⟨r, rfl⟩ := h
  subst hi
  have h1 : List.map Prod.fst (q ++ [x]) ++ r = q.map Prod.fst ++ x.1 :: r := by simp
  rw [atL, if_pos (by omega), Int.toNat_natCast, h1, List.getElem?_append_right (by simp)]
  simp
theorem atL_none {L : List (List Int)} {q : List PosV} {i : Int} (h : q.map Prod.fst = L) (hi : i < 0 ∨ (q.length : Int) ≤ i) : atL L i = ([], 2) := by
  subst h
  unfold atL
  by_cases h0 : 0 ≤ i
  · rw [if_pos h0, List.getElem?_eq_none (by simp; omega)]
  · rw [if_neg h0]

set_option maxHeartbeats 4000000 in
theorem pat_any (t : Tree) (i : Int) (A : Option Addr) (cap : Nat) (w : World) (hv : SliceR treeE w (Lt w.heap.size) t.kids (.slice A t.kids.length cap)) (htx : t.text.size ≤ maxLen) :
    Calls Try.prog 48 #[.agg #[.int .i64 t.kind, .string t.text, .int .i64 t.cols, .slice A t.kids.length cap], .int .i64 i] w (PosRes w (atR t i)) := by
  obtain ⟨W4, hW4⟩ : ∃ W4, W4 = (((w.alloc (Obj.cells #[.int .i64 t.kind, .string t.text, .int .i64 t.cols, .slice A t.kids.length cap] 24)).alloc (.cells #[.int .i64 i] 3)).alloc (.cells #[.slice none 0 0] 25)).alloc (.cells #[.int .i64 0] 30) := ⟨_, rfl⟩
  have hb0 : Below w.heap.size w W4 := by rw [hW4]; exact ((((Below.refl _ w).alloc (Nat.le_refl _) _).alloc (by simp) _).alloc (by simp; omega) _).alloc (by simp; omega) _
  have hs4 : W4.heap.size = w.heap.size + 4 := by rw [hW4]; simp
  have HB0 := hid hb0
  have HCK : Hid (Calls Try.prog 53 #[.agg #[.int .i64 t.kind, .string t.text, .int .i64 t.cols, .slice A t.kids.length cap]] W4 fun e w' => e = .returned (.bool (validS t)) ∧ Below W4.heap.size W4 w') :=
    nValid_any t A cap W4 (hv.below hb0 hb0.size) htx
  have HWF : Hid (w.heap.size + 1 + 1 + 1 < W4.heap.size) := by rw [hs4]; show _ < _; omega
  have KB : Hid (∀ W, Below W4.heap.size W4 W → NBox W w.heap.size t.kind t.cols t.text (.slice A t.kids.length cap) ∧ W.cell? ⟨w.heap.size + 1, 0, none⟩ = some (.int .i64 i) ∧
      (W.cell? ⟨w.heap.size + 1 + 1, 0, none⟩ = some (.slice none 0 0) ∧ W.frozen? ⟨w.heap.size + 1 + 1, 0, none⟩ = false) ∧ (W.cell? ⟨w.heap.size + 1 + 1 + 1, 0, none⟩ = some (.int .i64 0) ∧ W.frozen? ⟨w.heap.size + 1 + 1 + 1, 0, none⟩ = false)) := by
    intro W hW
    have hc := (bcell hW).1
    have hf := (bcell hW).2
    rw [hs4] at hc hf
    unfold NBox
    rw [hc _ _ (by omega), hc _ _ (by omega), hc _ _ (by omega), hc _ _ (by omega), hc _ _ (by omega), hc _ _ (by omega), hc _ _ (by omega), hf _ _ (by omega), hf _ _ (by omega), hW4]
    go_simp
  have HVK : Hid (∀ W, Below w.heap.size w W → SliceR treeE W (Lt w.heap.size) t.kids (.slice A t.kids.length cap)) := fun W h => hv.below h (Nat.le_refl _)
  have HVC : Hid (validS t = true → countS t ≤ 1000) := fun h => (valid_count h).1
  have HS4 := hid hs4
  have HW4 := hid hW4
  have hwf := HWF.out
  clear hv hb0 hs4 htx hW4
  cases hck : validS t
  · have HR : Hid (atR t i = ([], 1)) := by show _ = _; simp [atR, hck]
    rw [HR.out]
    rw [hck] at HCK
    clear HR hck HVC
    obtain ⟨tk, tx, tc, ts⟩ := t
    simp only [Tree.kind, Tree.text, Tree.cols, Tree.kids] at *
    go_enter Try.func48, Try.ntmps48
    go_wp2_with fail
    rw [← HW4.out]
    refine HCK.out.mono ?_
    rintro e w1 ⟨rfl, hb1⟩
    have HB1 := hid (HB0.out.trans (hb1.mono HB0.out.size))
    have hz : w.heap.size + 1 + 1 + 1 < w1.heap.size := Nat.lt_of_lt_of_le HWF.out hb1.size
    obtain ⟨_, _, ⟨q2, f2⟩, ⟨q3, f3⟩⟩ := KB.out w1 hb1
    clear hb1
    go_wp2_with fail
    have r0 : ((w1.setCell ⟨w.heap.size + 1 + 1, 0, none⟩ (.slice none 0 0)).setCell ⟨w.heap.size + 1 + 1 + 1, 0, none⟩ (.int .i64 1)).cell? ⟨w.heap.size + 1 + 1, 0, none⟩ = some (.slice none 0 0) := by go_simp
    have r1 : ((w1.setCell ⟨w.heap.size + 1 + 1, 0, none⟩ (.slice none 0 0)).setCell ⟨w.heap.size + 1 + 1 + 1, 0, none⟩ (.int .i64 1)).cell? ⟨w.heap.size + 1 + 1 + 1, 0, none⟩ = some (.int .i64 1) := by go_simp
    have hb2 : Below w.heap.size w ((w1.setCell ⟨w.heap.size + 1 + 1, 0, none⟩ (.slice none 0 0)).setCell ⟨w.heap.size + 1 + 1 + 1, 0, none⟩ (.int .i64 1)) := (HB1.out.setCell (p := ⟨w.heap.size + 1 + 1, 0, none⟩) (by simp; omega) _).setCell (p := ⟨w.heap.size + 1 + 1 + 1, 0, none⟩) (by simp; omega) _
    generalize ((w1.setCell ⟨w.heap.size + 1 + 1, 0, none⟩ (.slice none 0 0)).setCell ⟨w.heap.size + 1 + 1 + 1, 0, none⟩ (.int .i64 1)) = W2 at *
    exact bodyPost_ret (v := .tuple #[.slice none 0 0, .int .i64 1]) (by simp [results, Try.results48, go_sem, r0, r1]) rfl ⟨hb2, _, rfl, SliceR.nil_ 0 (by simp [maxLen]) none⟩
  · have hcnt := HVC.out hck
    have HCNT := hid hcnt
    have HLE : Hid ((allS [] t).length ≤ 2000) := by show _ ≤ _; rw [allS_len]; have := cntS_le t; omega
    have HR : Hid (atR t i = atL (allS [] t) i) := by show _ = _; simp [atR, hck]
    rw [hck] at HCK
    rw [HR.out]
    generalize hL : allS [] t = L at *
    have HL := hid hL
    have HLT : Hid (∀ q : List PosV, q.map Prod.fst = L → (i < 0 ∨ (q.length : Int) ≤ i) → atL L i = ([], 2)) := fun q h1 h2 => atL_none h1 h2
    have HLS : Hid (∀ (q : List PosV) (x : PosV), (q ++ [x]).map Prod.fst <+: L → (q.length : Int) = i → atL L i = (x.1, 0)) := fun q x h1 h2 => atL_some h1 h2
    generalize atL L i = r at *
    obtain ⟨tk, tx, tc, ts⟩ := t
    simp only [Tree.kind, Tree.text, Tree.cols, Tree.kids] at *
    clear hcnt hck hL HR HVC
    refine (callsIn_wide (n := 0)).1 ?_
    refine callsIn_of_wp_marks Try.func48 rfl trivial ?_ rfl
    simp only [Try.ntmps48, List.size_toArray, List.length_cons, List.length_nil, Nat.reduceAdd, Nat.reduceSub, Array.replicate_succ, Array.replicate_zero, List.push_toArray, List.append_toArray, List.nil_append, List.cons_append]
    gi_wp2_with fail
    rw [← HW4.out]
    refine ⟨trivial, rfl, ?_⟩
    refine (callsIn_wide.2 HCK.out).mono ?_
    rintro e w1 ⟨rfl, hb1⟩
    have HB1 := hid (HB0.out.trans (hb1.mono HB0.out.size))
    have hz : w.heap.size + 1 + 1 + 1 < w1.heap.size := Nat.lt_of_lt_of_le HWF.out hb1.size
    have hz0 : w.heap.size < w1.heap.size := by omega
    obtain ⟨⟨q0, q00, q01, q02⟩, qq1, ⟨q2, f2⟩, ⟨q3, f3⟩⟩ := KB.out w1 hb1
    clear hb1
    gi_wp2_with (refine ⟨trivial, rfl, ?_⟩; gi_at_call 66; refine (places_any _ ⟨_, _, _, _, rfl⟩ _ _).mono ?_; rintro e w' ⟨rfl, rfl⟩)
    obtain ⟨HC3, ⟨k0, kf⟩, hz5⟩ := box_two w1 (.int .i64 0) (.int .i64 tk) (.string tx) (.int .i64 tc) (.slice A ts.length cap) 3 24
    have hb5 : Below w.heap.size w ((w1.alloc (.cells #[.int .i64 0] 3)).alloc (.cells #[.int .i64 tk, .string tx, .int .i64 tc, .slice A ts.length cap] 24)) := (HB1.out.alloc HB1.out.size _).alloc (by simp; omega) _
    have q1' := cell_al (cell_al qq1 (.cells #[.int .i64 0] 3)) (.cells #[.int .i64 tk, .string tx, .int .i64 tc, .slice A ts.length cap] 24)
    have q2' := frozen_al (frozen_al ⟨q2, f2⟩ (.cells #[.int .i64 0] 3)) (.cells #[.int .i64 tk, .string tx, .int .i64 tc, .slice A ts.length cap] 24)
    have q3' := frozen_al (frozen_al ⟨q3, f3⟩ (.cells #[.int .i64 0] 3)) (.cells #[.int .i64 tk, .string tx, .int .i64 tc, .slice A ts.length cap] 24)
    generalize ((w1.alloc (.cells #[.int .i64 0] 3)).alloc (.cells #[.int .i64 tk, .string tx, .int .i64 tc, .slice A ts.length cap] 24)) = W5 at *
    clear q0 q00 q01 q02 qq1 q2 f2 q3 f3
    have HZ5 := hid hz5
    refine wpIn_places 7 (.mk tk tx tc ts) w.heap.size (w1.heap.size + 1) (w1.heap.size + 1) A cap rfl (by omega) (by omega) (by omega) HC3 (HVK.out _ hb5) (by have := HCNT.out; omega)
      (fun pre W => ((i < 0 ∨ (pre.length : Int) ≤ i) ∧ Below w.heap.size w W) ∧ W.cell? ⟨w.heap.size + 1, 0, none⟩ = some (.int .i64 i) ∧ (W.cell? ⟨w1.heap.size, 0, none⟩ = some (.int .i64 (pre.length : Int)) ∧ W.frozen? ⟨w1.heap.size, 0, none⟩ = false) ∧
        (W.cell? ⟨w.heap.size + 1 + 1, 0, none⟩ = some (.slice none 0 0) ∧ W.frozen? ⟨w.heap.size + 1 + 1, 0, none⟩ = false) ∧ (W.cell? ⟨w.heap.size + 1 + 1 + 1, 0, none⟩ = some (.int .i64 0) ∧ W.frozen? ⟨w.heap.size + 1 + 1 + 1, 0, none⟩ = false))
      (fun c pre W => (c = .ret ∧ ExSnoc (fun q x => (q.length : Int) = i ∧ W.cell? ⟨w.heap.size + 1 + 1, 0, none⟩ = some x.2 ∧ W.cell? ⟨w.heap.size + 1 + 1 + 1, 0, none⟩ = some (.int .i64 0) ∧ PRd (W5.heap.size + 2) x W) pre) ∧ Below w.heap.size w W)
      ?hI ?hIx ⟨⟨by simp; omega, hb5⟩, q1', ⟨k0, kf⟩, q2', q3'⟩ ?assign ?body ?done ?stop
    case hI => exact OwnFrom.and (OwnFrom.and (own_pure _ (fun pre : List PosV => i < 0 ∨ (pre.length : Int) ≤ i)) (ownFrom_below (Nat.le_refl _) hb5.size)) (OwnFrom.and (own_cell _ _ _) (OwnFrom.and (own_box _ _ (fun pre : List PosV => .int .i64 (pre.length : Int))) (OwnFrom.and (own_box _ _ _) (own_box _ _ _))))
    case hIx =>
      intro c
      refine OwnFrom.and ?_ (ownFrom_below (Nat.le_refl _) hb5.size)
      rintro s A B row ⟨hc, q, x, hs, h1, h3, h4, h5⟩ hg hr
      exact ⟨hc, q, x, hs, h1, cell_kept h3 hg (fun r e => (hr r e).2), cell_kept h4 hg (fun r e => (hr r e).2), own_ints _ (W5.heap.size + 2) (fun _ => x.1) (fun _ => x.2) s A B row h5 hg hr⟩
    case assign =>
      intro l x W K hK
      gi_wp2
      exact hK
    case body =>
      rintro l pre ⟨xl, xv⟩ W ⟨⟨hp1, hb⟩, hci, ⟨hck, hfk⟩, ⟨hc2, hf2⟩, hc3, hf3⟩ hx hpre
      obtain ⟨Ax, cx, rfl, hx⟩ := prd_form hx
      dsimp only
      have HB := hid hb
      have HX := hid hx
      have HP1 := hid hp1
      have hzk := World.block_lt_of_cell? W _ hck
      have hzz : w.heap.size + 1 + 1 + 1 < W.heap.size := World.block_lt_of_cell? W _ hc3
      have hlen : (pre.length : Int) + 1 ≤ 2000 := by
        have h1 := hpre.length_le
        rw [HL.out] at h1
        have h2 := HLE.out
        simp at h1; omega
      have hge : (0 : Int) ≤ (pre.length : Int) := by omega
      clear hb hx hpre hp1
      by_cases heq : (pre.length : Int) = i
      · have HEQ := hid heq
        have dd : ((pre.length : Int) == i) = true := by simpa using heq
        clear heq
        clear HLT HLS hz5
        generalize hpl : (pre.length : Int) = z at hck dd hlen hge HEQ
        have HPL := hid hpl
        clear hpl
        gi_wp2
        have r0 : ((W.setCell ⟨w.heap.size + 1 + 1, 0, none⟩ (.slice Ax xl.length cx)).setCell ⟨w.heap.size + 1 + 1 + 1, 0, none⟩ (.int .i64 0)).cell? ⟨w.heap.size + 1 + 1, 0, none⟩ = some (.slice Ax xl.length cx) := by go_simp
        have r1 : ((W.setCell ⟨w.heap.size + 1 + 1, 0, none⟩ (.slice Ax xl.length cx)).setCell ⟨w.heap.size + 1 + 1 + 1, 0, none⟩ (.int .i64 0)).cell? ⟨w.heap.size + 1 + 1 + 1, 0, none⟩ = some (.int .i64 0) := by go_simp
        have hb2 := (HB.out.setCell (p := ⟨w.heap.size + 1 + 1, 0, none⟩) (by simp; omega) (.slice Ax xl.length cx)).setCell (p := ⟨w.heap.size + 1 + 1 + 1, 0, none⟩) (by simp; omega) (.int .i64 0)
        refine ⟨(KeepsOthers.setCell _ _ _).trans (KeepsOthers.setCell _ _ _), ⟨rfl, pre, _, rfl, by rw [HPL.out]; exact HEQ.out, r0, r1, ?_⟩, hb2⟩
        refine SliceR.keep HX.out (fun q hq => ?_) (fun k hk => ⟨hk.1, by simpa using hk.2⟩)
        have h1 : W5.heap.size + 2 ≤ q.block := hq.1
        have := HZ5.out
        rw [cell_set_far _ trivial (by simp; omega), cell_set_far _ trivial (by simp; omega)]
      · have dd : ((pre.length : Int) == i) = false := by simpa using heq
        have HPN : Hid (i < 0 ∨ (((pre ++ [((xl, .slice Ax xl.length cx) : PosV)]).length : Int) ≤ i)) := by show _ ∨ _; have := HP1.out; simp; omega
        have HLN : Hid (((pre ++ [((xl, .slice Ax xl.length cx) : PosV)]).length : Int) = (pre.length : Int) + 1) := by show _ = _; simp
        clear heq HLT HLS hz5 HP1
        generalize (pre.length : Int) = z at *
        gi_wp2
        refine ⟨KeepsOthers.setCell _ _ _, But.setCell (V := VP _ _ _) _ (p := ⟨w1.heap.size, 0, none⟩) (.inl ⟨by simp; omega, by simp⟩) _, ⟨HPN.out, HB.out.setCell (p := ⟨w1.heap.size, 0, none⟩) (by simp; omega) _⟩, ?_, ⟨?_, ?_⟩, ⟨?_, ?_⟩, ?_, ?_⟩
        · rw [cell_set_far _ trivial (by simp; omega)]; exact hci
        · rw [HLN.out]; exact World.cell?_setCell_same' _ _ _ (by rw [hck]; rfl)
        · rw [World.frozen?_setCell]; exact hfk
        · rw [cell_set_far _ trivial (by simp; omega)]; exact hc2
        · rw [World.frozen?_setCell]; exact hf2
        · rw [cell_set_far _ trivial (by simp; omega)]; exact hc3
        · rw [World.frozen?_setCell]; exact hf3
    case done =>
      rintro D xs W hD hxs ⟨⟨hp1, hb⟩, hci, ⟨hck, hfk⟩, ⟨hc2, hf2⟩, hc3, hf3⟩ hK
      have HN := hid (HLT.out xs (by rw [hxs, HL.out]) hp1)
      have HB := hid hb
      clear hp1 hb hxs
      have hzz : w.heap.size + 1 + 1 + 1 < W.heap.size := World.block_lt_of_cell? W _ hc3
      gi_wp2
      have r0 : ((W.setCell ⟨w.heap.size + 1 + 1, 0, none⟩ (.slice none 0 0)).setCell ⟨w.heap.size + 1 + 1 + 1, 0, none⟩ (.int .i64 2)).cell? ⟨w.heap.size + 1 + 1, 0, none⟩ = some (.slice none 0 0) := by go_simp
      have r1 : ((W.setCell ⟨w.heap.size + 1 + 1, 0, none⟩ (.slice none 0 0)).setCell ⟨w.heap.size + 1 + 1 + 1, 0, none⟩ (.int .i64 2)).cell? ⟨w.heap.size + 1 + 1 + 1, 0, none⟩ = some (.int .i64 2) := by go_simp
      have hb2 := (HB.out.setCell (p := ⟨w.heap.size + 1 + 1, 0, none⟩) (by simp; omega) (.slice none 0 0)).setCell (p := ⟨w.heap.size + 1 + 1 + 1, 0, none⟩) (by simp; omega) (.int .i64 2)
      have hK2 := ((KeepsOthers.setCell W ⟨w.heap.size + 1 + 1, 0, none⟩ (.slice none 0 0)).trans (KeepsOthers.setCell _ ⟨w.heap.size + 1 + 1 + 1, 0, none⟩ (.int .i64 2))).same D _ hK rfl
      generalize ((W.setCell ⟨w.heap.size + 1 + 1, 0, none⟩ (.slice none 0 0)).setCell ⟨w.heap.size + 1 + 1 + 1, 0, none⟩ (.int .i64 2)) = W2 at *
      have r0' := cell_put r0 (.deferred none) hK2 rfl
      have r1' := cell_put r1 (.deferred none) hK2 rfl
      have hb3 := hb2.trans (belowK_b (w := w) (Nat.le_refl _) W2 D _ (.deferred none) (by omega) hK2 rfl rfl)
      refine ⟨by simp, .inl ⟨_, _, rfl, run_takeDeferred hK2, ?_⟩⟩
      generalize W2.putObj D (.deferred none) = W3 at *
      rw [HN.out]
      exact ⟨.tuple #[.slice none 0 0, .int .i64 2], by simp [results, Try.results48, go_sem, r0', r1'], hb3, _, rfl, SliceR.nil_ 0 (by simp [maxLen]) none⟩
    case stop =>
      rintro D c pre W hD hpre ⟨⟨rfl, q, ⟨xl, xv⟩, rfl, h1, h3, h4, hx⟩, hb⟩ hK
      have HN := hid (HLS.out q (xl, xv) (by rw [← HL.out]; exact hpre) h1)
      obtain ⟨Ax, cx, rfl, hx⟩ := prd_form hx
      have HB := hid hb
      have HX := hid hx
      clear hb h1 hpre hx
      gi_wp2
      have r0' := cell_put h3 (.deferred none) hK rfl
      have r1' := cell_put h4 (.deferred none) hK rfl
      have hb3 := HB.out.trans (belowK_b (w := w) (Nat.le_refl _) W D _ (.deferred none) (by omega) hK rfl rfl)
      have hx3 := prd_own (W5.heap.size + 2) (xl, .slice Ax xl.length cx) W D _ (.deferred none) hK rfl HX.out
      refine ⟨by simp, .inl ⟨_, _, rfl, run_takeDeferred hK, ?_⟩⟩
      generalize W.putObj D (.deferred none) = W3 at *
      rw [HN.out]
      exact ⟨.tuple #[.slice Ax xl.length cx, .int .i64 0], by simp [results, Try.results48, go_sem, r0', r1'], hb3, _, rfl, SliceR.wide hx3 (fun k hk => ⟨by omega, hk.2⟩)⟩
end Go.Proofs.Ytognlokeadlpbaa
