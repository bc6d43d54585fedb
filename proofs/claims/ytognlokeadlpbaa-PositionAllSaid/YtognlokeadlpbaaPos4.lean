/- position.Index. -/
import Derived.Test.YtognlokeadlpbaaPos3
set_option linter.unusedVariables false
set_option linter.unusedSimpArgs false
set_option maxRecDepth 100000
namespace Go.Proofs.Ytognlokeadlpbaa
open Go Go.RowKit Go.Shelf
attribute [local go_sem] Oper.semAt_some

/-- The number of the positions ahead of p. -/
def idxE (L : List (List Int)) (p : List Int) : Nat := (L.takeWhile (fun q => decide (q ≠ p))).length
theorem takeWhile_pre {L : List (List Int)} {pre : List PosV} {x : PosV} (f : List Int → Bool) (h : (pre ++ [x]).map Prod.fst <+: L) (h1 : ∀ y ∈ pre, f y.1 = true) (h2 : f x.1 = false) : L.takeWhile f = pre.map Prod.fst := by
  obtain ⟨r, rfl⟩ := h
  have h3 : ∀ a ∈ pre.map Prod.fst, f a = true := fun a ha => by obtain ⟨y, hy, rfl⟩ := List.mem_map.1 ha; exact h1 y hy
  rw [List.map_append, List.append_assoc, List.takeWhile_append_of_pos h3]
  simp [List.takeWhile_cons, h2]
theorem takeWhile_all {L : List (List Int)} {pre : List PosV} (f : List Int → Bool) (h : pre.map Prod.fst = L) (h1 : ∀ y ∈ pre, f y.1 = true) : L.takeWhile f = pre.map Prod.fst := by
  subst h
  have h3 : ∀ a ∈ pre.map Prod.fst, f a = true := fun a ha => by obtain ⟨y, hy, rfl⟩ := List.mem_map.1 ha; exact h1 y hy
  have := List.takeWhile_append_of_pos (l₂ := []) h3
  simpa using this
def indexR (t : Tree) (p : List Int) : Int × Int := if chkR (validS t) (posIn t p) = 0 then ((idxE (allS [] t) p : Int), 0) else (0, chkR (validS t) (posIn t p))

set_option maxHeartbeats 4000000 in
theorem pindex_any (t : Tree) (p : List Int) (A : Option Addr) (cap : Nat) (b : Value) (w : World) (hv : SliceR treeE w (Lt w.heap.size) t.kids (.slice A t.kids.length cap)) (htx : t.text.size ≤ maxLen) (hp : IntsR w (Lt w.heap.size) p b) :
    Calls Try.prog 46 #[.agg #[.int .i64 t.kind, .string t.text, .int .i64 t.cols, .slice A t.kids.length cap], b] w fun e w' => e = .returned (.tuple #[.int .i64 (indexR t p).1, .int .i64 (indexR t p).2]) ∧ Below w.heap.size w w' := by
  obtain ⟨Ap, cp, rfl⟩ := hp.form
  obtain ⟨W4, hW4⟩ : ∃ W4, W4 = (w.alloc (Obj.cells #[.int .i64 t.kind, .string t.text, .int .i64 t.cols, .slice A t.kids.length cap] 24)).alloc (.cells #[.slice Ap p.length cp] 25) := ⟨_, rfl⟩
  have hb0 : Below w.heap.size w W4 := by rw [hW4]; exact ((Below.refl _ w).alloc (Nat.le_refl _) _).alloc (by simp) _
  have hs4 : W4.heap.size = w.heap.size + 2 := by rw [hW4]; simp
  have HB0 := hid hb0
  have HCK : Hid (Calls Try.prog 68 #[.agg #[.int .i64 t.kind, .string t.text, .int .i64 t.cols, .slice A t.kids.length cap], .slice Ap p.length cp] W4 fun e w' => e = .returned (.int .i64 (chkR (validS t) (posIn t p))) ∧ Below W4.heap.size W4 w') :=
    check_any t p A cap _ W4 (hv.below hb0 hb0.size) htx (hp.below hb0 hb0.size)
  have KB : Hid (∀ W, Below W4.heap.size W4 W → NBox W w.heap.size t.kind t.cols t.text (.slice A t.kids.length cap) ∧ W.cell? ⟨w.heap.size + 1, 0, none⟩ = some (.slice Ap p.length cp)) := by
    intro W hW
    have hc := (bcell hW).1
    rw [hs4] at hc
    unfold NBox
    rw [hc _ _ (by omega), hc _ _ (by omega), hc _ _ (by omega), hc _ _ (by omega), hc _ _ (by omega), hW4]
    go_simp
  have HVK : Hid (∀ W, Below w.heap.size w W → SliceR treeE W (Lt w.heap.size) t.kids (.slice A t.kids.length cap)) := fun W h => hv.below h (Nat.le_refl _)
  have HPK : Hid (∀ W, Below w.heap.size w W → IntsR W (Lt w.heap.size) p (.slice Ap p.length cp)) := fun W h => hp.below h (Nat.le_refl _)
  have HVC : Hid (validS t = true → countS t ≤ 1000) := fun h => (valid_count h).1
  have HS4 := hid hs4
  have HW4 := hid hW4
  clear hv hp hb0 hs4 htx hW4
  by_cases hck : chkR (validS t) (posIn t p) = 0
  · have hb12 : validS t = true ∧ posIn t p = true := by
      unfold chkR at hck; cases h1 : validS t <;> cases h2 : posIn t p <;> simp_all
    have hcnt := HVC.out hb12.1
    have HCNT := hid hcnt
    have HLE : Hid ((allS [] t).length ≤ 2000) := by show _ ≤ _; rw [allS_len]; have := cntS_le t; omega
    have HR : Hid (indexR t p = ((idxE (allS [] t) p : Int), 0)) := by show _ = _; rw [indexR, if_pos hck]
    rw [hck] at HCK
    rw [HR.out]
    dsimp only
    generalize hL : allS [] t = L at *
    have HL := hid hL
    have HLT : Hid (∀ q : List PosV, (∀ y ∈ q, y.1 ≠ p) → q.map Prod.fst = L → (q.length : Int) = (idxE L p : Int)) := fun q h1 h2 => by
      rw [idxE, takeWhile_all _ h2 (fun y hy => by simpa using h1 y hy)]; simp
    have HLS : Hid (∀ (q : List PosV) (x : PosV), (∀ y ∈ q, y.1 ≠ p) → x.1 = p → (q ++ [x]).map Prod.fst <+: L → (q.length : Int) = (idxE L p : Int)) := fun q x h1 h3 h2 => by
      rw [idxE, takeWhile_pre _ h2 (fun y hy => by simpa using h1 y hy) (by simpa using h3)]; simp
    generalize (idxE L p : Int) = r at *
    obtain ⟨tk, tx, tc, ts⟩ := t
    simp only [Tree.kind, Tree.text, Tree.cols, Tree.kids] at *
    clear hcnt hck hL HR HVC hb12
    refine (callsIn_wide (n := 0)).1 ?_
    refine callsIn_of_wp_marks Try.func46 rfl trivial ?_ rfl
    simp only [Try.ntmps46, List.size_toArray, List.length_cons, List.length_nil, Nat.reduceAdd, Nat.reduceSub, Array.replicate_succ, Array.replicate_zero, List.push_toArray, List.append_toArray, List.nil_append, List.cons_append]
    gi_wp2_with fail
    rw [← HW4.out]
    refine ⟨trivial, rfl, ?_⟩
    refine (callsIn_wide.2 HCK.out).mono ?_
    rintro e w1 ⟨rfl, hb1⟩
    have HB1 := hid (HB0.out.trans (hb1.mono HB0.out.size))
    have HZ1 : Hid (w.heap.size + 1 < w1.heap.size) := by have := HS4.out; have := hb1.size; show _ < _; omega
    have hz := HZ1.out
    have hz0 : w.heap.size < w1.heap.size := by omega
    obtain ⟨⟨q0, q00, q01, q02⟩, qq⟩ := KB.out w1 hb1
    clear hb1
    gi_wp2_with (refine ⟨trivial, rfl, ?_⟩; gi_at_call 66; refine (places_any _ ⟨_, _, _, _, rfl⟩ _ _).mono ?_; rintro e w' ⟨rfl, rfl⟩)
    obtain ⟨HC3, ⟨k0, kf⟩, hz5⟩ := box_two w1 (.int .i64 0) (.int .i64 tk) (.string tx) (.int .i64 tc) (.slice A ts.length cap) 3 24
    have hb5 : Below w.heap.size w ((w1.alloc (.cells #[.int .i64 0] 3)).alloc (.cells #[.int .i64 tk, .string tx, .int .i64 tc, .slice A ts.length cap] 24)) := (HB1.out.alloc HB1.out.size _).alloc (by simp; omega) _
    have kq := cell_al (cell_al qq (.cells #[.int .i64 0] 3)) (.cells #[.int .i64 tk, .string tx, .int .i64 tc, .slice A ts.length cap] 24)
    generalize ((w1.alloc (.cells #[.int .i64 0] 3)).alloc (.cells #[.int .i64 tk, .string tx, .int .i64 tc, .slice A ts.length cap] 24)) = W5 at *
    clear q0 q00 q01 q02 qq
    have HB5 := hid hb5
    refine wpIn_places 8 (.mk tk tx tc ts) w.heap.size (w1.heap.size + 1) (w1.heap.size + 1) A cap rfl (by omega) (by omega) (by omega) HC3 (HVK.out _ hb5) (by have := HCNT.out; omega)
      (fun pre W => ((∀ y ∈ pre, y.1 ≠ p) ∧ Below w.heap.size w W) ∧ W.cell? ⟨w.heap.size + 1, 0, none⟩ = some (.slice Ap p.length cp) ∧ (W.cell? ⟨w1.heap.size, 0, none⟩ = some (.int .i64 (pre.length : Int)) ∧ W.frozen? ⟨w1.heap.size, 0, none⟩ = false))
      (fun c pre W => (c = .exit 0 ∧ (pre.length : Int) - 1 = r ∧ W.cell? ⟨w1.heap.size, 0, none⟩ = some (.int .i64 r)) ∧ Below w.heap.size w W)
      ?hI ?hIx ⟨⟨by simp, hb5⟩, kq, k0, kf⟩ ?assign ?body ?done ?stop
    case hI => exact OwnFrom.and (OwnFrom.and (own_pure _ _) (ownFrom_below (Nat.le_refl _) hb5.size)) (OwnFrom.and (own_cell _ _ _) (own_box _ _ (fun pre : List PosV => .int .i64 (pre.length : Int))))
    case hIx =>
      intro c
      refine OwnFrom.and ?_ (ownFrom_below (Nat.le_refl _) hb5.size)
      rintro s A B row ⟨hc, h1, h3⟩ hg hr
      exact ⟨hc, h1, cell_kept h3 hg (fun r e => (hr r e).2)⟩
    case assign =>
      intro l x W K hK
      gi_wp2
      exact hK
    case body =>
      rintro l pre ⟨xl, xv⟩ W ⟨⟨hp1, hb⟩, hcp, hc1, hf1⟩ hx hpre
      obtain ⟨Ax, cx, rfl, hx⟩ := prd_form hx
      dsimp only
      have HP1 := hid hp1
      have HB := hid hb
      have HPRE := hid hpre
      have hzz := World.block_lt_of_cell? W _ hc1
      have hlen : (pre.length : Int) + 1 ≤ 2000 := by
        have h1 := hpre.length_le
        rw [HL.out] at h1
        have h2 := HLE.out
        simp at h1; omega
      have hge : (0 : Int) ≤ (pre.length : Int) := by omega
      have HC : Hid (∀ n, Calls Try.prog 57 #[.slice Ax xl.length cx, .slice Ap p.length cp] (W.drewN n) fun e w' => e = .returned (.bool (decide (xl = p))) ∧ ∃ m, w' = (W.drewN n).drewN m) := fun n =>
        equal_q xl p (W.drewN n) _ _ _ _ (SliceR.keep hx (fun _ _ => rfl) (fun _ h => h)) (SliceR.keep (HPK.out W hb) (fun _ _ => rfl) (fun _ h => h))
      have HC0 : Hid (Calls Try.prog 57 #[.slice Ax xl.length cx, .slice Ap p.length cp] W fun e w' => e = .returned (.bool (decide (xl = p))) ∧ ∃ m, w' = W.drewN m) := equal_q xl p W _ _ _ _ hx (HPK.out W hb)
      clear hb hx hpre hp1
      by_cases hxp : xl = p
      · have HXP := hid hxp
        have HRR : Hid ((pre.length : Int) = r) := HLS.out pre (xl, .slice Ax xl.length cx) HP1.out hxp (by rw [← HL.out]; exact HPRE.out)
        have hd : decide (xl = p) = true := by simpa using hxp
        rw [hd] at HC HC0
        clear hxp hd
        gi_wp2_with (refine ⟨trivial, rfl, ?_⟩; gi_at_call 57; refine (CallsIn.inRound l (callsIn_wide.2 HC0.out)).mono ?_; rintro e w' ⟨rfl, m, rfl⟩)
        refine ⟨keepsDrewN W m, ⟨rfl, by rw [← HRR.out]; simp, ?_⟩, below_dn1R HB.out m⟩
        rw [← HRR.out]; exact hc1
      · have HXP := hid hxp
        have hd : decide (xl = p) = false := by simpa using hxp
        have HLN : Hid (((pre ++ [((xl, .slice Ax xl.length cx) : PosV)]).length : Int) = (pre.length : Int) + 1) := by show _ = _; simp
        have HPN : Hid (∀ y ∈ pre ++ [((xl, .slice Ax xl.length cx) : PosV)], y.1 ≠ p) := by
          intro y hy
          rcases List.mem_append.1 hy with hy | hy
          · exact HP1.out y hy
          · obtain rfl := List.mem_singleton.1 hy
            exact hxp
        rw [hd] at HC HC0
        clear hxp hd HLS HPRE
        generalize (pre.length : Int) = z at *
        gi_wp2_with (refine ⟨trivial, rfl, ?_⟩; gi_at_call 57; refine (CallsIn.inRound l (callsIn_wide.2 HC0.out)).mono ?_; rintro e w' ⟨rfl, m, rfl⟩)
        refine ⟨(keepsDrewN W m).trans (KeepsOthers.setCell _ _ _), (But.drewN W m).trans (But.setCell (V := VP _ _ _) _ (p := ⟨w1.heap.size, 0, none⟩) (.inl ⟨by simp; omega, by simp⟩) _), ⟨HPN.out, (below_dn1R HB.out m).setCell (p := ⟨w1.heap.size, 0, none⟩) (by simp; omega) _⟩, ?_, ?_, ?_⟩
        · rw [cell_set_far _ trivial (by simp; omega)]; exact hcp
        · rw [HLN.out]; exact World.cell?_setCell_same' _ _ _ (by show (W.cell? _).isSome = true; rw [hc1]; rfl)
        · rw [World.frozen?_setCell]; exact hf1
    case done =>
      rintro D xs W hD hxs ⟨⟨hp1, hb⟩, hcp, hc1, hf1⟩ hK
      have HB := hid hb
      have HLN : Hid ((xs.length : Int) = r) := HLT.out xs hp1 (by rw [hxs, HL.out])
      clear hb hxs hp1
      generalize (xs.length : Int) = z at *
      gi_wp2
      refine ⟨by simp, .inl ⟨_, _, rfl, run_takeDeferred hK, ?_⟩⟩
      rw [← HLN.out]
      exact ⟨.tuple #[.int .i64 z, .int .i64 0], by simp [results, Try.results46, go_sem], rfl, HB.out.trans (belowK_b (w := w) (Nat.le_refl _) W D _ (.deferred none) (by omega) hK rfl rfl)⟩
    case stop =>
      rintro D c pre W hD hpre ⟨⟨rfl, _, hc1⟩, hb⟩ hK
      have HB := hid hb
      clear hb hpre
      gi_wp2
      refine ⟨by simp, .inl ⟨_, _, rfl, run_takeDeferred hK, ?_⟩⟩
      exact ⟨.tuple #[.int .i64 r, .int .i64 0], by simp [results, Try.results46, go_sem], rfl, HB.out.trans (belowK_b (w := w) (Nat.le_refl _) W D _ (.deferred none) (by omega) hK rfl rfl)⟩
  · have HR : Hid (indexR t p = (0, chkR (validS t) (posIn t p))) := by show _ = _; rw [indexR, if_neg hck]
    have d1 : (chkR (validS t) (posIn t p) != 0) = true := by simpa using hck
    rw [HR.out]
    dsimp only
    clear HR hck
    generalize chkR (validS t) (posIn t p) = c at *
    obtain ⟨tk, tx, tc, ts⟩ := t
    simp only [Tree.kind, Tree.text, Tree.cols, Tree.kids] at *
    go_enter Try.func46, Try.ntmps46
    go_wp2_with fail
    rw [← HW4.out]
    refine HCK.out.mono ?_
    rintro e w1 ⟨rfl, hb1⟩
    have HB1 := hid (HB0.out.trans (hb1.mono HB0.out.size))
    clear hb1
    go_wp2_with fail
    exact bodyPost_ret (v := .tuple #[.int .i64 0, .int .i64 c]) (by simp [results, Try.results46, go_sem]) rfl ⟨rfl, HB1.out⟩
end Go.Proofs.Ytognlokeadlpbaa
