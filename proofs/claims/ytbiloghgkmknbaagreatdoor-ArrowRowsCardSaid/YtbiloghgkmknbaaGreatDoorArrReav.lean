/- vinculumlaw42.ArrowReaches: the walk. Written by wip/genlaw42.py. -/
import Derived.Test.YtbiloghgkmknbaaGreatDoorAwk42v
import Derived.Test.YtbiloghgkmknbaaGreatDoorGN
import Derived.Deep.RegionHeld3
set_option linter.unusedVariables false
set_option linter.unusedSimpArgs false
set_option maxRecDepth 100000
namespace Go.Proofs.YtbiloghgkmknbaaGreatDoor
open Go.RowKit

/-- Right leads from a position to the next one. -/
theorem right_next {t : Tree} (hv : validS t = true) {k : Nat} (hk : k < (allS [] t).length) : moveS t (allS [] t)[k] 1 = ((allS [] t).getD (k + 1) [], if k + 1 < (allS [] t).length then 0 else 8) := by
  rw [move_right hv hk, List.getD_eq_getElem?_getD]
  by_cases h : k + 1 < (allS [] t).length
  · rw [List.getElem?_eq_getElem h, if_pos h]; rfl
  · rw [List.getElem?_eq_none (by omega), if_neg h]; rfl
set_option maxHeartbeats 8000000 in
theorem arrRea_walk (t : Tree) (A : Option Addr) (cap : Nat) (w : World) (hv : SliceR treeE w (Lt w.heap.size) t.kids (.slice A t.kids.length cap)) (hok : NodeOk t) :
    Calls Tryz.prog 9 #[.agg #[.int .i64 t.kind, .string t.text, .int .i64 t.cols, .slice A t.kids.length cap]] w fun e w' => e = .returned (.bool true) ∧ Below w.heap.size w w' := by
  have HFEW : Hid (∀ W, Below w.heap.size w W → Calls Tryz.prog 27 #[.agg #[.int .i64 t.kind, .string t.text, .int .i64 t.cols, .slice A t.kids.length cap], .int .i64 40] W fun e w' => e = .returned (.bool (fewS t 40)) ∧ Below W.heap.size W w') := fun W hW => few_any t W _ 40 (hv.below hW hW.size) (by omega) (by omega)
  generalize hW0 : w.alloc (Obj.cells #[.int .i64 t.kind, .string t.text, .int .i64 t.cols, .slice A t.kids.length cap] 24) = W0
  have hz0 : W0.heap.size = w.heap.size + 1 := by rw [← hW0]; simp
  have hB0 : Below w.heap.size w W0 := by rw [← hW0]; exact bNew _ _
  have hb4 : MovBox W0 w.heap.size #[.int .i64 t.kind, .string t.text, .int .i64 t.cols, .slice A t.kids.length cap] := by rw [← hW0]; exact MovBox.new w _ _ _ rfl
  have KB : Hid (∀ W, Below W0.heap.size W0 W → MovBox W w.heap.size #[.int .i64 t.kind, .string t.text, .int .i64 t.cols, .slice A t.kids.length cap] ∧ Below w.heap.size w W) := fun W hW => ⟨hb4.below hW (by omega), hB0.trans (hW.mono hB0.size)⟩
  cases hf : fewS t 40 with
  | false =>
    rw [hf] at HFEW
    obtain ⟨tk, tx, tc, ts⟩ := t
    simp only [Tree.kind, Tree.text, Tree.cols, Tree.kids] at *
    clear hf hv hok hz0 hB0 hb4
    go_enter Tryz.func9, Tryz.ntmps9
    go_wp2_with fail
    refine (awake42_any _).mono ?_
    rintro e w1 ⟨rfl, hb1⟩
    obtain ⟨hm, hbw⟩ := KB.out w1 hb1
    have m0 := hm 0 _ rfl
    have m1 := hm 1 _ rfl
    have m2 := hm 2 _ rfl
    have m3 := hm 3 _ rfl
    have HK1 := hid hbw
    clear hb1 hbw hm
    go_wp2_with fail
    refine (HFEW.out _ HK1.out).mono ?_
    rintro e w2 ⟨rfl, hb2⟩
    have HK2 := hid (bCl HK1.out hb2)
    clear hb2
    go_wp2_with fail
    go_ret
    exact ⟨rfl, HK2.out⟩
  | true =>
  rw [hf] at HFEW
  have hct : countS t ≤ 40 := by have := few_count hf; omega
  have HVAL : Hid (∀ W, Below w.heap.size w W → Calls Tryz.prog 31 #[.agg #[.int .i64 t.kind, .string t.text, .int .i64 t.cols, .slice A t.kids.length cap]] W fun e w' => e = .returned (.bool (validS t)) ∧ Below W.heap.size W w') := fun W hW => valid_any t A cap W (hv.below hW hW.size) hok.2.2 (by omega)
  cases hvt : validS t with
  | false =>
    rw [hvt] at HVAL
    obtain ⟨tk, tx, tc, ts⟩ := t
    simp only [Tree.kind, Tree.text, Tree.cols, Tree.kids] at *
    clear hf hv hok hz0 hB0 hb4 hct hvt
    go_enter Tryz.func9, Tryz.ntmps9
    go_wp2_with fail
    refine (awake42_any _).mono ?_
    rintro e w1 ⟨rfl, hb1⟩
    have HT1 := hid hb1
    clear hb1
    obtain ⟨hm, hbw⟩ := KB.out w1 HT1.out
    have m0 := hm 0 _ rfl
    have m1 := hm 1 _ rfl
    have m2 := hm 2 _ rfl
    have m3 := hm 3 _ rfl
    have HK1 := hid hbw
    clear hm hbw
    go_wp2_with fail
    refine (HFEW.out _ HK1.out).mono ?_
    rintro e w2 ⟨rfl, hb2⟩
    have HT2 := hid (bCl HT1.out hb2)
    clear hb2 m0 m1 m2 m3
    obtain ⟨hm, hbw⟩ := KB.out w2 HT2.out
    have m0 := hm 0 _ rfl
    have m1 := hm 1 _ rfl
    have m2 := hm 2 _ rfl
    have m3 := hm 3 _ rfl
    have HK2 := hid hbw
    clear hm hbw
    go_wp2_with fail
    refine (HVAL.out _ HK2.out).mono ?_
    rintro e w3 ⟨rfl, hb3⟩
    have HK3 := hid (bCl HK2.out hb3)
    clear hb3
    go_wp2_with fail
    go_ret
    exact ⟨rfl, HK3.out⟩
  | true =>
  rw [hvt] at HVAL
  have CL : Hid (∀ W, Below w.heap.size w W → Calls Tryz.prog 33 #[.agg #[.int .i64 t.kind, .string t.text, .int .i64 t.cols, .slice A t.kids.length cap]] W (AllRes W true (allS [] t))) := fun W hW => by
    have h := rAll_any t A cap W (hv.below hW hW.size) hok.2.2 (by omega)
    rw [hvt] at h
    exact h
  have CM1 : Hid (∀ W (q : List Int) Aq cq, Below w.heap.size w W → posIn t q = true → IntsR W (Lt W.heap.size) q (.slice Aq q.length cq) → Calls Tryz.prog 29 #[.agg #[.int .i64 t.kind, .string t.text, .int .i64 t.cols, .slice A t.kids.length cap], .agg #[.int .i64 2, .string ⟨#[]⟩, .int .i64 0, .int .i64 1, .int .i64 1, .int .i64 1, .int .i64 0, .int .i64 0, .slice none 0 0, .int .i64 0, .slice none 0 0], .slice Aq q.length cq, .int .i64 1] W (PosRes W (moveS t q 1))) := fun W q Aq cq hW hq hi =>
    move1_any t (ruleB 1 1 1) q A none none Aq cap 0 0 cq W (hv.below hW hW.size) hok (ruleIn W 1 1 1 (by simp [In64]) (by simp [In64]) (by simp [In64])) hi hvt rule1_valid hq
  have HSAME : Hid (∀ W (q : List Int) Aq Ar cq cr, IntsR W (Lt W.heap.size) q (.slice Aq q.length cq) → IntsR W (Lt W.heap.size) q (.slice Ar q.length cr) → Calls Tryz.prog 25 #[.slice Aq q.length cq, .slice Ar q.length cr] W fun e w' => e = .returned (.bool true) ∧ ∃ n, w' = W.drewN n) := fun W q Aq Ar cq cr h1 h2 => by
    have h := sameI_q q q W _ _ Aq Ar cq cr h1 h2
    rw [decide_eq_true rfl] at h
    exact h
  have HMV : Hid (∀ k (hk : k < (allS [] t).length), moveS t (allS [] t)[k] 1 = ((allS [] t).getD (k + 1) [], if k + 1 < (allS [] t).length then 0 else 8)) := fun k hk => right_next hvt hk
  have HIN : Hid (∀ k (hk : k < (allS [] t).length), posIn t (allS [] t)[k] = true) := fun k hk => all_posIn hk
  have hL0 : 0 < (allS [] t).length := allS_pos t
  have HL0 : Hid ((allS [] t).getD 0 [] = [0]) := by show _ = _; rw [List.getD_eq_getElem?_getD, List.getElem?_eq_getElem hL0, allS_at_first]; rfl
  have hLL := allS_le t (by omega)
  have CMK : Hid (∀ k (hk : k < (allS [] t).length) W Aq cq, Below w.heap.size w W → IntsR W (Lt W.heap.size) (allS [] t)[k] (.slice Aq (allS [] t)[k].length cq) → Calls Tryz.prog 29 #[.agg #[.int .i64 t.kind, .string t.text, .int .i64 t.cols, .slice A t.kids.length cap], .agg #[.int .i64 2, .string ⟨#[]⟩, .int .i64 0, .int .i64 1, .int .i64 1, .int .i64 1, .int .i64 0, .int .i64 0, .slice none 0 0, .int .i64 0, .slice none 0 0], .slice Aq (allS [] t)[k].length cq, .int .i64 1] W (PosRes W ((allS [] t).getD (k + 1) [], if k + 1 < (allS [] t).length then 0 else 8))) := fun k hk W Aq cq hW hi => by
    have h := CM1.out W _ Aq cq hW (HIN.out k hk) hi
    rw [HMV.out k hk] at h
    exact h
  clear HMV HIN CM1
  generalize allS [] t = L at *
  obtain ⟨tk, tx, tc, ts⟩ := t
  simp only [Tree.kind, Tree.text, Tree.cols, Tree.kids] at *
  clear hf hv hok hz0 hB0 hb4 hct hvt
  go_enter Tryz.func9, Tryz.ntmps9
  go_wp2_with fail
  refine (awake42_any _).mono ?_
  rintro e w1 ⟨rfl, hb1⟩
  have HT1 := hid hb1
  clear hb1 hW0
  obtain ⟨hm, hbw⟩ := KB.out w1 HT1.out
  have m0 := hm 0 _ rfl
  have m1 := hm 1 _ rfl
  have m2 := hm 2 _ rfl
  have m3 := hm 3 _ rfl
  have HK1 := hid hbw
  clear hm hbw
  go_wp2_with fail
  refine (HFEW.out _ HK1.out).mono ?_
  rintro e w2 ⟨rfl, hb2⟩
  have HT2 := hid (bCl HT1.out hb2)
  clear hb2 m0 m1 m2 m3
  obtain ⟨hm, hbw⟩ := KB.out w2 HT2.out
  have m0 := hm 0 _ rfl
  have m1 := hm 1 _ rfl
  have m2 := hm 2 _ rfl
  have m3 := hm 3 _ rfl
  have HK2 := hid hbw
  clear hm hbw
  go_wp2_with fail
  refine (HVAL.out _ HK2.out).mono ?_
  rintro e w3 ⟨rfl, hb3⟩
  have HT3 := hid (bCl HT2.out hb3)
  clear hb3 m0 m1 m2 m3
  obtain ⟨hm, hbw⟩ := KB.out w3 HT3.out
  have m0 := hm 0 _ rfl
  have m1 := hm 1 _ rfl
  have m2 := hm 2 _ rfl
  have m3 := hm 3 _ rfl
  have HK3 := hid hbw
  clear hm hbw
  go_wp2_with fail
  refine (rule_any _ _ _ _).mono ?_
  rintro e w4 ⟨rfl, hb4⟩
  have HT4 := hid (bCl HT3.out hb4)
  clear hb4 m0 m1 m2 m3
  go_upto_region 6 with fail
  obtain ⟨Y, hY⟩ : ∃ Y, w4.alloc (Obj.cells #[.int .i64 2, .string ⟨#[]⟩, .int .i64 0, .int .i64 1, .int .i64 1, .int .i64 1, .int .i64 0, .int .i64 0, .slice none 0 0, .int .i64 0, .slice none 0 0] 28) = Y := ⟨_, rfl⟩
  rw [hY]
  have hy1 : MovBox Y w4.heap.size #[.int .i64 2, .string ⟨#[]⟩, .int .i64 0, .int .i64 1, .int .i64 1, .int .i64 1, .int .i64 0, .int .i64 0, .slice none 0 0, .int .i64 0, .slice none 0 0] := by rw [← hY]; exact MovBox.new _ _ _ _ rfl
  have hy2 : Below w4.heap.size w4 Y := by rw [← hY]; exact bNew _ _
  have hy3 : w4.heap.size < Y.heap.size := by rw [← hY]; simp
  have HTY := hid (bCl HT4.out hy2)
  have KY : Hid (∀ W, Below Y.heap.size Y W → MovBox W w.heap.size #[.int .i64 tk, .string tx, .int .i64 tc, .slice A ts.length cap] ∧ MovBox W w4.heap.size #[.int .i64 2, .string ⟨#[]⟩, .int .i64 0, .int .i64 1, .int .i64 1, .int .i64 1, .int .i64 0, .int .i64 0, .slice none 0 0, .int .i64 0, .slice none 0 0] ∧ Below w.heap.size w W) := fun W hW => by
    obtain ⟨h1, h2⟩ := KB.out W (bCl HTY.out hW)
    exact ⟨h1, hy1.below hW hy3, h2⟩
  clear hY hy1 hy2 hy3
  obtain ⟨hm, hn, hbw⟩ := KY.out Y (Below.refl _ _)
  have m0 := hm 0 _ rfl
  have m1 := hm 1 _ rfl
  have m2 := hm 2 _ rfl
  have m3 := hm 3 _ rfl
  have n0 := hn 0 _ rfl
  have n1 := hn 1 _ rfl
  have n2 := hn 2 _ rfl
  have n3 := hn 3 _ rfl
  have n4 := hn 4 _ rfl
  have n5 := hn 5 _ rfl
  have n6 := hn 6 _ rfl
  have n7 := hn 7 _ rfl
  have n8 := hn 8 _ rfl
  have n9 := hn 9 _ rfl
  have n10 := hn 10 _ rfl
  have HKY := hid hbw
  clear hm hn hbw
  go_wp2_with fail
  refine (CL.out _ HKY.out).mono ?_
  rintro e w6 ⟨hb6, (⟨h, _⟩ | ⟨_, v6, rfl, hr6⟩)⟩
  case inl => cases h
  obtain ⟨A6, c6, rfl⟩ := hr6.rows.form
  have HT6 := hid hb6
  have HR6 := hid hr6.rowsLt
  clear hb6 hr6
  clear m0 m1 m2 m3 n0 n1 n2 n3 n4 n5 n6 n7 n8 n9 n10
  go_wp2_with fail
  have hlit : IntsR (w6.alloc (.cells #[.int .i64 0] 3)) (Lt (w6.alloc (.cells #[.int .i64 0] 3)).heap.size) (L.getD 0 []) (.slice (some ⟨w6.heap.size, 0, none⟩) 1 1) := by
    rw [HL0.out]
    exact ints_lit w6 [0] (by simp [In64]) (by unfold Lt; simp) _ 1 rfl rfl (by simp [maxLen]) _ _ rfl
  have HLIT := hid hlit
  clear hlit
  go_loopw [6, 7] (fun p i wr => Below Y.heap.size Y wr ∧ Below w6.heap.size w6 wr ∧ ∃ k : Nat, k ≤ L.length ∧ i = .int .i64 k ∧ IntsR wr (Lt wr.heap.size) (L.getD k []) p) (fun _ i _ => L.length - (intOf i).toNat)
  case atStart => exact ⟨bCl HT6.out (bNew _ _), bNew _ _, 0, Nat.zero_le _, rfl, HLIT.out⟩
  case round =>
    obtain ⟨hb, hb6, k, hk, rfl, hp⟩ := hrel
    have HB := hid hb
    have HB6 := hid hb6
    obtain ⟨AP, cP, rfl⟩ := hp.form
    have HP := hid hp
    clear hb hb6 hp
    rcases Nat.lt_or_ge k L.length with hlt | hge
    · obtain ⟨_, _, rs, hq, _, _, hrd, hls⟩ := HR6.out.below HB6.out HB6.out.size
      cases hq
      obtain ⟨g, o, A3, c3, rs3, rfl, hg, q0, h5, h6, h7, h8⟩ := rows_at hrd hls hlt
      have HQ := hid (show IntsR wr (Lt wr.heap.size) L[k] (.slice A3 L[k].length c3) from ⟨_, _, rs3, rfl, h5, h6, h7, h8⟩)
      have hgk : L.getD k [] = L[k] := by rw [List.getD_eq_getElem?_getD, List.getElem?_eq_getElem hlt]; rfl
      rw [hgk] at HP ⊢
      have CK := hid (CMK.out k hlt)
      have i5 : decide ((k : Int) < (L.length : Int)) = true := by rw [decide_eq_true_eq]; omega
      have i6 : (0 : Int) ≤ (k : Int) := by omega
      have i7 : (k : Int) < (L.length : Int) := by omega
      have HER : Hid ((if k + 1 < L.length then (0 : Int) else 8) = if k + 1 < L.length then 0 else 8) := rfl
      generalize L[k] = pk at *
      generalize hnk : L.getD (k + 1) [] = nk at *
      have HNK := hid hnk
      clear hrd hls h5 h6 h7 h8 hgk hnk
      obtain ⟨hm, hn, hbw⟩ := KY.out wr HB.out
      have m0 := hm 0 _ rfl
      have m1 := hm 1 _ rfl
      have m2 := hm 2 _ rfl
      have m3 := hm 3 _ rfl
      have n0 := hn 0 _ rfl
      have n1 := hn 1 _ rfl
      have n2 := hn 2 _ rfl
      have n3 := hn 3 _ rfl
      have n4 := hn 4 _ rfl
      have n5 := hn 5 _ rfl
      have n6 := hn 6 _ rfl
      have n7 := hn 7 _ rfl
      have n8 := hn 8 _ rfl
      have n9 := hn 9 _ rfl
      have n10 := hn 10 _ rfl
      have HKR := hid hbw
      clear hm hn hbw
      go_wp2_with fail
      refine (HSAME.out wr pk _ _ _ _ HP.out HQ.out).mono ?_
      rintro e w7 ⟨rfl, nd7, rfl⟩
      go_wp2_with fail
      by_cases hlast : k + 1 < L.length
      · have d9 : decide ((k : Int) + 1 < (L.length : Int)) = true := by rw [decide_eq_true_eq]; omega
        rw [if_pos hlast] at CK
        refine (CK.out _ _ _ (bDn HKR.out _) (HP.out.keep (fun _ _ => rfl) (fun _ h => h))).mono ?_
        rintro e w8 ⟨hb8, v8, rfl, hi8⟩
        obtain ⟨A8, c8, rfl⟩ := hi8.form
        have HB8 := hid (bCl (bDn HB.out nd7) hb8)
        have HB68 := hid (bCl (bDn HB6.out nd7) hb8)
        have HI8 := hid hi8
        clear hb8 hi8 q0
        clear m0 m1 m2 m3 n0 n1 n2 n3 n4 n5 n6 n7 n8 n9 n10
        go_wp2_with fail
        go_roundw
        case rel => exact ⟨HB8.out, HB68.out, k + 1, by omega, by go_num, by rw [HNK.out]; exact HI8.out.keep (fun _ _ => rfl) (fun _ h => h.2)⟩
        case measure => simp [intOf]; omega
      · have d9 : decide ((k : Int) + 1 < (L.length : Int)) = false := by rw [decide_eq_false_iff_not]; omega
        rw [if_neg hlast] at CK
        refine (CK.out _ _ _ (bDn HKR.out _) (HP.out.keep (fun _ _ => rfl) (fun _ h => h))).mono ?_
        rintro e w8 ⟨hb8, v8, rfl, hi8⟩
        obtain ⟨A8, c8, rfl⟩ := hi8.form
        have HB8 := hid (bCl (bDn HB.out nd7) hb8)
        have HB68 := hid (bCl (bDn HB6.out nd7) hb8)
        have HI8 := hid hi8
        clear hb8 hi8 q0
        clear m0 m1 m2 m3 n0 n1 n2 n3 n4 n5 n6 n7 n8 n9 n10
        go_wp2_with fail
        go_roundw
        case rel => exact ⟨HB8.out, HB68.out, k + 1, by omega, by go_num, by rw [HNK.out]; exact HI8.out.keep (fun _ _ => rfl) (fun _ h => h.2)⟩
        case measure => simp [intOf]; omega
    · have i5 : decide ((k : Int) < (L.length : Int)) = false := by rw [decide_eq_false_iff_not]; omega
      have hkl : k = L.length := by omega
      have hgn : L.getD k [] = [] := by rw [List.getD_eq_getElem?_getD, List.getElem?_eq_none (by omega)]; rfl
      rw [hgn]
      have HKR := hid (KY.out wr HB.out).2.2
      clear hkl hgn HP
      go_wp2_with fail
      go_ret
      exact ⟨rfl, HKR.out⟩
end Go.Proofs.YtbiloghgkmknbaaGreatDoor
