/- position.Prev. -/
import Derived.Test.YtognlokeadlpbaaPos4
import Derived.Lib.LazyBuf
set_option linter.unusedVariables false
set_option linter.unusedSimpArgs false
set_option maxRecDepth 100000
namespace Go.Proofs.Ytognlokeadlpbaa
open Go Go.RowKit Go.Shelf
attribute [local go_sem] Oper.semAt_some

def lastV (pre : List PosV) : Value := match pre.getLast? with | some x => x.2 | none => .slice none 0 0
def lastL (pre : List PosV) : List Int := match pre.getLast? with | some x => x.1 | none => []
theorem lastV_snoc (pre : List PosV) (x : PosV) : lastV (pre ++ [x]) = x.2 := by simp [lastV]
theorem lastL_snoc (pre : List PosV) (x : PosV) : lastL (pre ++ [x]) = x.1 := by simp [lastL]
/-- The position ahead of p. -/
def lastO (L : List (List Int)) (p : List Int) : Option (List Int) := (L.takeWhile (fun q => decide (q ≠ p))).getLast?
def optR (o : Option (List Int)) : List Int × Int := match o with | some q => (q, 0) | none => ([], 8)
def prevR (t : Tree) (p : List Int) : List Int × Int := if chkR (validS t) (posIn t p) = 0 then optR (lastO (allS [] t) p) else ([], chkR (validS t) (posIn t p))

set_option maxHeartbeats 4000000 in
theorem prev_any (t : Tree) (p : List Int) (A : Option Addr) (cap : Nat) (b : Value) (w : World) (hv : SliceR treeE w (Lt w.heap.size) t.kids (.slice A t.kids.length cap)) (htx : t.text.size ≤ maxLen) (hp : IntsR w (Lt w.heap.size) p b) :
    Calls Try.prog 44 #[.agg #[.int .i64 t.kind, .string t.text, .int .i64 t.cols, .slice A t.kids.length cap], b] w (PosRes w (prevR t p)) := by
  obtain ⟨Ap, cp, rfl⟩ := hp.form
  obtain ⟨W4, hW4⟩ : ∃ W4, W4 = (w.alloc (Obj.cells #[.int .i64 t.kind, .string t.text, .int .i64 t.cols, .slice A t.kids.length cap] 24)).alloc (.cells #[.slice Ap p.length cp] 25) := ⟨_, rfl⟩
  have hb0 : Below w.heap.size w W4 := by rw [hW4]; exact ((Below.refl _ w).alloc (Nat.le_refl _) _).alloc (by simp) _
  have hs4 : W4.heap.size = w.heap.size + 2 := by rw [hW4]; simp
  have HB0 := hid hb0
  have HCK : Hid (Calls Try.prog 68 #[.agg #[.int .i64 t.kind, .string t.text, .int .i64 t.cols, .slice A t.kids.length cap], .slice Ap p.length cp] W4 fun e w' => e = .returned (.int .i64 (chkR (validS t) (posIn t p))) ∧ Below W4.heap.size W4 w') :=
    check_any t p A cap _ W4 (hv.below hb0 hb0.size) htx (hp.below hb0 hb0.size)
  have KB : Hid (∀ W, Below W4.heap.size W4 W → NBox W w.heap.size t.kind t.cols t.text (.slice A t.kids.length cap) ∧ W.cell? ⟨w.heap.size + 1, 0, none⟩ = some (.slice Ap p.length cp)) := by
    intro W hW
    have hc := (bcell hW).1
    rw [hs4] at hc
    unfold NBox
    rw [hc _ _ (by omega), hc _ _ (by omega), hc _ _ (by omega), hc _ _ (by omega), hc _ _ (by omega), hW4]
    go_simp
  have HVK : Hid (∀ W, Below w.heap.size w W → SliceR treeE W (Lt w.heap.size) t.kids (.slice A t.kids.length cap)) := fun W h => hv.below h (Nat.le_refl _)
  have HPK : Hid (∀ W, Below w.heap.size w W → IntsR W (Lt w.heap.size) p (.slice Ap p.length cp)) := fun W h => hp.below h (Nat.le_refl _)
  have HVC : Hid (validS t = true → countS t ≤ 1000) := fun h => (valid_count h).1
  have HS4 := hid hs4
  have HW4 := hid hW4
  clear hv hp hb0 hs4 htx hW4
  by_cases hck : chkR (validS t) (posIn t p) = 0
  · have hb12 : validS t = true ∧ posIn t p = true := by
      unfold chkR at hck; cases h1 : validS t <;> cases h2 : posIn t p <;> simp_all
    have hcnt := HVC.out hb12.1
    have HCNT := hid hcnt
    have HLE : Hid ((allS [] t).length ≤ 2000) := by show _ ≤ _; rw [allS_len]; have := cntS_le t; omega
    have HR : Hid (prevR t p = optR (lastO (allS [] t) p)) := by show _ = _; rw [prevR, if_pos hck]
    have HNE : Hid (∀ q ∈ allS [] t, 0 < q.length) := fun q hq => by
      have := mem_all.1 hq
      rcases q with _ | ⟨_, _⟩
      · simp [posIn] at this
      · simp
    rw [hck] at HCK
    rw [HR.out]
    generalize hL : allS [] t = L at *
    have HL := hid hL
    have HLT : Hid (∀ q : List PosV, (∀ y ∈ q, y.1 ≠ p) → q.map Prod.fst = L → (q.map Prod.fst).getLast? = lastO L p) := fun q h1 h2 => by
      rw [lastO, takeWhile_all _ h2 (fun y hy => by simpa using h1 y hy)]
    have HLS : Hid (∀ (q : List PosV) (x : PosV), (∀ y ∈ q, y.1 ≠ p) → x.1 = p → (q ++ [x]).map Prod.fst <+: L → (q.map Prod.fst).getLast? = lastO L p) := fun q x h1 h3 h2 => by
      rw [lastO, takeWhile_pre _ h2 (fun y hy => by simpa using h1 y hy) (by simpa using h3)]
    have HRN : Hid (∀ q : List PosV, (q.map Prod.fst).getLast? = lastO L p → q = [] → optR (lastO L p) = ([], 8)) := fun q h1 h2 => by subst h2; rw [← h1]; rfl
    have HRS : Hid (∀ q : List PosV, (q.map Prod.fst).getLast? = lastO L p → ∀ q' x, q = q' ++ [x] → optR (lastO L p) = (x.1, 0)) := fun q h1 q' x h2 => by subst h2; rw [← h1]; simp [optR]
    generalize lastO L p = O at *
    generalize optR O = r at *
    obtain ⟨tk, tx, tc, ts⟩ := t
    simp only [Tree.kind, Tree.text, Tree.cols, Tree.kids] at *
    clear hcnt hck hL HR HVC hb12
    refine (callsIn_wide (n := 0)).1 ?_
    refine callsIn_of_wp_marks Try.func44 rfl trivial ?_ rfl
    simp only [Try.ntmps44, List.size_toArray, List.length_cons, List.length_nil, Nat.reduceAdd, Nat.reduceSub, Array.replicate_succ, Array.replicate_zero, List.push_toArray, List.append_toArray, List.nil_append, List.cons_append]
    gi_wp2_with fail
    rw [← HW4.out]
    refine ⟨trivial, rfl, ?_⟩
    refine (callsIn_wide.2 HCK.out).mono ?_
    rintro e w1 ⟨rfl, hb1⟩
    have HB1 := hid (HB0.out.trans (hb1.mono HB0.out.size))
    have HZ1 : Hid (w.heap.size + 1 < w1.heap.size) := by have := HS4.out; have := hb1.size; show _ < _; omega
    have hz := HZ1.out
    have hz0 : w.heap.size < w1.heap.size := by omega
    obtain ⟨⟨q0, q00, q01, q02⟩, qq⟩ := KB.out w1 hb1
    clear hb1
    gi_wp2_with (refine ⟨trivial, rfl, ?_⟩; gi_at_call 66; refine (places_any _ ⟨_, _, _, _, rfl⟩ _ _).mono ?_; rintro e w' ⟨rfl, rfl⟩)
    obtain ⟨HC3, ⟨k0, kf⟩, hz5⟩ := box_two w1 (.slice none 0 0) (.int .i64 tk) (.string tx) (.int .i64 tc) (.slice A ts.length cap) 25 24
    have hb5 : Below w.heap.size w ((w1.alloc (.cells #[.slice none 0 0] 25)).alloc (.cells #[.int .i64 tk, .string tx, .int .i64 tc, .slice A ts.length cap] 24)) := (HB1.out.alloc HB1.out.size _).alloc (by simp; omega) _
    have kq := cell_al (cell_al qq (.cells #[.slice none 0 0] 25)) (.cells #[.int .i64 tk, .string tx, .int .i64 tc, .slice A ts.length cap] 24)
    generalize ((w1.alloc (.cells #[.slice none 0 0] 25)).alloc (.cells #[.int .i64 tk, .string tx, .int .i64 tc, .slice A ts.length cap] 24)) = W5 at *
    clear q0 q00 q01 q02 qq
    have HB5 := hid hb5
    refine wpIn_places 8 (.mk tk tx tc ts) w.heap.size (w1.heap.size + 1) (w1.heap.size + 1) A cap rfl (by omega) (by omega) (by omega) HC3 (HVK.out _ hb5) (by have := HCNT.out; omega)
      (fun pre W => ((∀ y ∈ pre, y.1 ≠ p) ∧ Below w.heap.size w W) ∧ W.cell? ⟨w.heap.size + 1, 0, none⟩ = some (.slice Ap p.length cp) ∧ (W.cell? ⟨w1.heap.size, 0, none⟩ = some (lastV pre) ∧ W.frozen? ⟨w1.heap.size, 0, none⟩ = false) ∧ IntsR W (fun k => W5.heap.size + 2 ≤ k ∧ k < W.heap.size) (lastL pre) (lastV pre))
      (fun c pre W => (c = .exit 0 ∧ ∃ q x, pre = q ++ [x] ∧ (∀ y ∈ q, y.1 ≠ p) ∧ x.1 = p ∧ W.cell? ⟨w1.heap.size, 0, none⟩ = some (lastV q) ∧ IntsR W (fun k => W5.heap.size + 2 ≤ k ∧ k < W.heap.size) (lastL q) (lastV q)) ∧ Below w.heap.size w W)
      ?hI ?hIx ⟨⟨by simp, hb5⟩, kq, ⟨k0, kf⟩, SliceR.nil_ 0 (by simp [maxLen]) none⟩ ?assign ?body ?done ?stop
    case hI => exact OwnFrom.and (OwnFrom.and (own_pure _ _) (ownFrom_below (Nat.le_refl _) hb5.size)) (OwnFrom.and (own_cell _ _ _) (OwnFrom.and (own_box _ _ lastV) (own_ints _ _ lastL lastV)))
    case hIx =>
      intro c
      refine OwnFrom.and ?_ (ownFrom_below (Nat.le_refl _) hb5.size)
      rintro s A B row ⟨hc, q, x, h1, h2, h3, h4, h5⟩ hg hr
      exact ⟨hc, q, x, h1, h2, h3, cell_kept h4 hg (fun r e => (hr r e).2), own_ints _ (W5.heap.size + 2) (fun _ => lastL q) (fun _ => lastV q) s A B row h5 hg hr⟩
    case assign =>
      intro l x W K hK
      gi_wp2
      exact hK
    case body =>
      rintro l pre ⟨xl, xv⟩ W ⟨⟨hp1, hb⟩, hcp, ⟨hc1, hf1⟩, hlv⟩ hx hpre
      obtain ⟨Ax, cx, rfl, hx⟩ := prd_form hx
      dsimp only
      have HP1 := hid hp1
      have HB := hid hb
      have HX := hid hx
      have HLV := hid hlv
      have hzz := World.block_lt_of_cell? W _ hc1
      have HC0 : Hid (Calls Try.prog 57 #[.slice Ax xl.length cx, .slice Ap p.length cp] W fun e w' => e = .returned (.bool (decide (xl = p))) ∧ ∃ m, w' = W.drewN m) := equal_q xl p W _ _ _ _ hx (HPK.out W hb)
      clear hb hx hpre hp1 hlv
      by_cases hxp : xl = p
      · have HXP := hid hxp
        have hd : decide (xl = p) = true := by simpa using hxp
        rw [hd] at HC0
        clear hxp hd
        have HC1 := hid hc1
        gi_wp2_with (refine ⟨trivial, rfl, ?_⟩; gi_at_call 57; refine (CallsIn.inRound l (callsIn_wide.2 HC0.out)).mono ?_; rintro e w' ⟨rfl, m, rfl⟩)
        exact ⟨keepsDrewN W m, ⟨rfl, pre, _, rfl, HP1.out, HXP.out, HC1.out, SliceR.keep HLV.out (fun _ _ => rfl) (fun _ h => h)⟩, below_dn1R HB.out m⟩
      · have HXP := hid hxp
        have hd : decide (xl = p) = false := by simpa using hxp
        have HPN : Hid (∀ y ∈ pre ++ [((xl, .slice Ax xl.length cx) : PosV)], y.1 ≠ p) := by
          intro y hy
          rcases List.mem_append.1 hy with hy | hy
          · exact HP1.out y hy
          · obtain rfl := List.mem_singleton.1 hy
            exact hxp
        rw [hd] at HC0
        clear hxp hd HLS
        have HC1 := hid hc1
        have HFF := hid hf1
        obtain ⟨lv, hlv⟩ : ∃ lv, lv = lastV pre := ⟨_, rfl⟩
        rw [← hlv] at hc1
        have HZ5 := hid hz5
        clear hlv hz5
        gi_wp2_with (refine ⟨trivial, rfl, ?_⟩; gi_at_call 57; refine (CallsIn.inRound l (callsIn_wide.2 HC0.out)).mono ?_; rintro e w' ⟨rfl, m, rfl⟩)
        refine ⟨(keepsDrewN W m).trans (KeepsOthers.setCell _ _ _), (But.drewN W m).trans (But.setCell (V := VP _ _ _) _ (p := ⟨w1.heap.size, 0, none⟩) (.inl ⟨by simp; omega, by simp⟩) _), ⟨HPN.out, (below_dn1R HB.out m).setCell (p := ⟨w1.heap.size, 0, none⟩) (by simp; omega) _⟩, ?_, ⟨?_, ?_⟩, ?_⟩
        · rw [cell_set_far _ trivial (by simp; omega)]; exact hcp
        · rw [lastV_snoc]; exact World.cell?_setCell_same' _ _ _ (by show (W.cell? _).isSome = true; rw [HC1.out]; rfl)
        · rw [World.frozen?_setCell]; exact HFF.out
        · rw [lastV_snoc, lastL_snoc]
          refine SliceR.keep HX.out (fun q hq => ?_) (fun k hk => ⟨hk.1, by have := hk.2; simpa using this⟩)
          have h1 : W5.heap.size + 2 ≤ q.block := hq.1
          have := HZ5.out
          rw [cell_set_far _ trivial (by simp; omega)]
          rfl
    case done =>
      rintro D xs W hD hxs ⟨⟨hp1, hb⟩, hcp, ⟨hc1, hf1⟩, hlv⟩ hK
      have HO := hid (HLT.out xs hp1 (by rw [hxs, HL.out]))
      have HNX : Hid (∀ q' x, xs = q' ++ [x] → 0 < x.1.length) := fun q' x h => HNE.out x.1 (by rw [← HL.out, ← hxs, h]; simp)
      have HB := hid (hb.trans (belowK_b (w := w) (Nat.le_refl _) W D _ (.deferred none) (by have := hb5.size; omega) hK rfl rfl))
      have HLV := hid hlv
      have hn := fun w => Lib.run_eql_slice_nil (P := Try.prog) w
      clear hb hxs hp1 hlv hf1 hcp
      rcases List.eq_nil_or_concat xs with rfl | ⟨q', x, rfl⟩
      · have hlv0 : lastV ([] : List PosV) = .slice none 0 0 := rfl
        rw [hlv0] at hc1
        clear hlv0
        gi_wp2
        refine ⟨by simp, .inl ⟨_, _, rfl, run_takeDeferred hK, ?_⟩⟩
        rw [HRN.out _ HO.out rfl]
        exact ⟨.tuple #[.slice none 0 0, .int .i64 8], by simp [results, Try.results44, go_sem], HB.out, _, rfl, SliceR.nil_ 0 (by simp [maxLen]) none⟩
      · rw [List.concat_eq_append] at *
        have HNX2 := HNX.out q' x rfl
        have hl := HLV.out
        rw [lastV_snoc, lastL_snoc] at hl
        rw [lastV_snoc] at hc1
        obtain ⟨xl, xv⟩ := x
        obtain ⟨Ax, cx, rfl, hx⟩ := prd_form hl
        dsimp only at hc1
        obtain ⟨ad, rfl⟩ : ∃ ad, Ax = some ad := by
          obtain ⟨_, _, cs, e, _, _, h7, h8⟩ := hx
          cases e
          exact h7.some_ (by rw [h8.len]; simpa [intE] using HNX2)
        have HX := hid (prd_own (W5.heap.size + 2) (xl, .slice (some ad) xl.length cx) W D _ (.deferred none) hK rfl hx)
        clear hl hx HNX2
        gi_wp2
        refine ⟨by simp, .inl ⟨_, _, rfl, run_takeDeferred hK, ?_⟩⟩
        rw [HRS.out _ HO.out _ _ rfl]
        exact ⟨.tuple #[.slice (some ad) xl.length cx, .int .i64 0], by simp [results, Try.results44, go_sem], HB.out, _, rfl, SliceR.wide HX.out (fun k hk => ⟨by have := hb5.size; omega, hk.2⟩)⟩
    case stop =>
      rintro D c pre W hD hpre ⟨⟨rfl, xs, y, rfl, hp1, hy, hc1, hlv⟩, hb⟩ hK
      have HO := hid (HLS.out xs y hp1 hy (by rw [← HL.out]; exact hpre))
      have HNX : Hid (∀ q' x, xs = q' ++ [x] → 0 < x.1.length) := fun q' x h => HNE.out x.1 (by
        rw [HL.out, h] at hpre
        exact hpre.subset (by simp))
      have HB := hid (hb.trans (belowK_b (w := w) (Nat.le_refl _) W D _ (.deferred none) (by have := hb5.size; omega) hK rfl rfl))
      have HLV := hid hlv
      have hn := fun w => Lib.run_eql_slice_nil (P := Try.prog) w
      clear hb hpre hp1 hlv hy
      rcases List.eq_nil_or_concat xs with rfl | ⟨q', x, rfl⟩
      · have hlv0 : lastV ([] : List PosV) = .slice none 0 0 := rfl
        rw [hlv0] at hc1
        clear hlv0
        gi_wp2
        refine ⟨by simp, .inl ⟨_, _, rfl, run_takeDeferred hK, ?_⟩⟩
        rw [HRN.out _ HO.out rfl]
        exact ⟨.tuple #[.slice none 0 0, .int .i64 8], by simp [results, Try.results44, go_sem], HB.out, _, rfl, SliceR.nil_ 0 (by simp [maxLen]) none⟩
      · rw [List.concat_eq_append] at *
        have HNX2 := HNX.out q' x rfl
        have hl := HLV.out
        rw [lastV_snoc, lastL_snoc] at hl
        rw [lastV_snoc] at hc1
        obtain ⟨xl, xv⟩ := x
        obtain ⟨Ax, cx, rfl, hx⟩ := prd_form hl
        dsimp only at hc1
        obtain ⟨ad, rfl⟩ : ∃ ad, Ax = some ad := by
          obtain ⟨_, _, cs, e, _, _, h7, h8⟩ := hx
          cases e
          exact h7.some_ (by rw [h8.len]; simpa [intE] using HNX2)
        have HX := hid (prd_own (W5.heap.size + 2) (xl, .slice (some ad) xl.length cx) W D _ (.deferred none) hK rfl hx)
        clear hl hx HNX2
        gi_wp2
        refine ⟨by simp, .inl ⟨_, _, rfl, run_takeDeferred hK, ?_⟩⟩
        rw [HRS.out _ HO.out _ _ rfl]
        exact ⟨.tuple #[.slice (some ad) xl.length cx, .int .i64 0], by simp [results, Try.results44, go_sem], HB.out, _, rfl, SliceR.wide HX.out (fun k hk => ⟨by have := hb5.size; omega, hk.2⟩)⟩
  · have HR : Hid (prevR t p = ([], chkR (validS t) (posIn t p))) := by show _ = _; rw [prevR, if_neg hck]
    have d1 : (chkR (validS t) (posIn t p) != 0) = true := by simpa using hck
    rw [HR.out]
    clear HR hck
    generalize chkR (validS t) (posIn t p) = c at *
    obtain ⟨tk, tx, tc, ts⟩ := t
    simp only [Tree.kind, Tree.text, Tree.cols, Tree.kids] at *
    go_enter Try.func44, Try.ntmps44
    go_wp2_with fail
    rw [← HW4.out]
    refine HCK.out.mono ?_
    rintro e w1 ⟨rfl, hb1⟩
    have HB1 := hid (HB0.out.trans (hb1.mono HB0.out.size))
    clear hb1
    go_wp2_with fail
    exact bodyPost_ret (v := .tuple #[.slice none 0 0, .int .i64 c]) (by simp [results, Try.results44, go_sem]) rfl ⟨HB1.out, _, rfl, SliceR.nil_ 0 (by simp [maxLen]) none⟩
end Go.Proofs.Ytognlokeadlpbaa
