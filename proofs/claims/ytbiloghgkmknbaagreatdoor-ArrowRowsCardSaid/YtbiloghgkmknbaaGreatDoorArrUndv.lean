/- vinculumlaw42.ArrowUndoes: the walk. Written by wip/genlaw42.py. -/
import Derived.Test.YtbiloghgkmknbaaGreatDoorAwk42v
import Derived.Test.YtbiloghgkmknbaaGreatDoorArrReav
import Derived.Deep.RegionHeld3
set_option linter.unusedVariables false
set_option linter.unusedSimpArgs false
set_option maxRecDepth 100000
namespace Go.Proofs.YtbiloghgkmknbaaGreatDoor
open Go.RowKit

/-- Left leads from a position to the one before; right and left undo each other. -/
theorem left_prev {t : Tree} (hv : validS t = true) {k : Nat} (hk : k < (allS [] t).length) : moveS t (allS [] t)[k] 0 = ((if k = 0 then [] else (allS [] t).getD (k - 1) []), if k = 0 then 8 else 0) := by
  rw [move_left hv hk]
  by_cases h : k = 0 <;> simp [h]
theorem back_left {t : Tree} (hv : validS t = true) {k : Nat} (hk : k < (allS [] t).length) (h1 : k + 1 < (allS [] t).length) : posIn t ((allS [] t).getD (k + 1) []) = true ∧ moveS t ((allS [] t).getD (k + 1) []) 0 = ((allS [] t)[k], 0) := by
  have e : (allS [] t).getD (k + 1) [] = (allS [] t)[k + 1] := by rw [List.getD_eq_getElem?_getD, List.getElem?_eq_getElem h1]; rfl
  rw [e, left_prev hv h1]
  refine ⟨all_posIn h1, ?_⟩
  rw [if_neg (by omega), if_neg (by omega), Nat.add_sub_cancel, List.getD_eq_getElem?_getD, List.getElem?_eq_getElem hk]; rfl
theorem back_right {t : Tree} (hv : validS t = true) {k : Nat} (hk : k < (allS [] t).length) (h1 : k ≠ 0) : posIn t (if k = 0 then [] else (allS [] t).getD (k - 1) []) = true ∧ moveS t (if k = 0 then [] else (allS [] t).getD (k - 1) []) 1 = ((allS [] t)[k], 0) := by
  have e : (if k = 0 then [] else (allS [] t).getD (k - 1) []) = (allS [] t)[k - 1] := by rw [if_neg h1, List.getD_eq_getElem?_getD, List.getElem?_eq_getElem (by omega)]; rfl
  have hk2 : k - 1 < (allS [] t).length := by omega
  rw [e, right_next hv hk2]
  refine ⟨all_posIn hk2, ?_⟩
  have e2 : k - 1 + 1 = k := by omega
  rw [e2, if_pos hk, List.getD_eq_getElem?_getD, List.getElem?_eq_getElem hk]; rfl
set_option maxHeartbeats 8000000 in
theorem arrUnd_walk (t : Tree) (n0 : Nat) (hn0 : n0 ≤ 65535) (A : Option Addr) (cap : Nat) (w : World) (hv : SliceR treeE w (Lt w.heap.size) t.kids (.slice A t.kids.length cap)) (hok : NodeOk t) :
    Calls Tryz.prog 8 #[.agg #[.int .i64 t.kind, .string t.text, .int .i64 t.cols, .slice A t.kids.length cap], .int .u16 (n0 : Int)] w fun e w' => e = .returned (.bool true) ∧ Below w.heap.size w w' := by
  have HFEW : Hid (∀ W, Below w.heap.size w W → Calls Tryz.prog 27 #[.agg #[.int .i64 t.kind, .string t.text, .int .i64 t.cols, .slice A t.kids.length cap], .int .i64 40] W fun e w' => e = .returned (.bool (fewS t 40)) ∧ Below W.heap.size W w') := fun W hW => few_any t W _ 40 (hv.below hW hW.size) (by omega) (by omega)
  generalize hW0 : w.alloc (Obj.cells #[.int .i64 t.kind, .string t.text, .int .i64 t.cols, .slice A t.kids.length cap] 24) = W0
  have hz0 : W0.heap.size = w.heap.size + 1 := by rw [← hW0]; simp
  have hB0 : Below w.heap.size w W0 := by rw [← hW0]; exact bNew _ _
  have hb4 : MovBox W0 w.heap.size #[.int .i64 t.kind, .string t.text, .int .i64 t.cols, .slice A t.kids.length cap] := by rw [← hW0]; exact MovBox.new w _ _ _ rfl
  have KB : Hid (∀ W, Below W0.heap.size W0 W → MovBox W w.heap.size #[.int .i64 t.kind, .string t.text, .int .i64 t.cols, .slice A t.kids.length cap] ∧ Below w.heap.size w W) := fun W hW => ⟨hb4.below hW (by omega), hB0.trans (hW.mono hB0.size)⟩
  cases hf : fewS t 40 with
  | false =>
    rw [hf] at HFEW
    obtain ⟨tk, tx, tc, ts⟩ := t
    simp only [Tree.kind, Tree.text, Tree.cols, Tree.kids] at *
    clear hf hv hok hz0 hB0 hb4
    go_enter Tryz.func8, Tryz.ntmps8
    go_wp2_with fail
    refine (awake42_any _).mono ?_
    rintro e w1 ⟨rfl, hb1⟩
    obtain ⟨hm, hbw⟩ := KB.out w1 hb1
    have m0 := hm 0 _ rfl
    have m1 := hm 1 _ rfl
    have m2 := hm 2 _ rfl
    have m3 := hm 3 _ rfl
    have HK1 := hid hbw
    clear hb1 hbw hm
    go_wp2_with fail
    refine (HFEW.out _ HK1.out).mono ?_
    rintro e w2 ⟨rfl, hb2⟩
    have HK2 := hid (bCl HK1.out hb2)
    clear hb2
    go_wp2_with fail
    go_ret
    exact ⟨rfl, HK2.out⟩
  | true =>
  rw [hf] at HFEW
  have hct : countS t ≤ 40 := by have := few_count hf; omega
  have HVAL : Hid (∀ W, Below w.heap.size w W → Calls Tryz.prog 31 #[.agg #[.int .i64 t.kind, .string t.text, .int .i64 t.cols, .slice A t.kids.length cap]] W fun e w' => e = .returned (.bool (validS t)) ∧ Below W.heap.size W w') := fun W hW => valid_any t A cap W (hv.below hW hW.size) hok.2.2 (by omega)
  cases hvt : validS t with
  | false =>
    rw [hvt] at HVAL
    obtain ⟨tk, tx, tc, ts⟩ := t
    simp only [Tree.kind, Tree.text, Tree.cols, Tree.kids] at *
    clear hf hv hok hz0 hB0 hb4 hct hvt
    go_enter Tryz.func8, Tryz.ntmps8
    go_wp2_with fail
    refine (awake42_any _).mono ?_
    rintro e w1 ⟨rfl, hb1⟩
    have HT1 := hid hb1
    clear hb1
    obtain ⟨hm, hbw⟩ := KB.out w1 HT1.out
    have m0 := hm 0 _ rfl
    have m1 := hm 1 _ rfl
    have m2 := hm 2 _ rfl
    have m3 := hm 3 _ rfl
    have HK1 := hid hbw
    clear hm hbw
    go_wp2_with fail
    refine (HFEW.out _ HK1.out).mono ?_
    rintro e w2 ⟨rfl, hb2⟩
    have HT2 := hid (bCl HT1.out hb2)
    clear hb2 m0 m1 m2 m3
    obtain ⟨hm, hbw⟩ := KB.out w2 HT2.out
    have m0 := hm 0 _ rfl
    have m1 := hm 1 _ rfl
    have m2 := hm 2 _ rfl
    have m3 := hm 3 _ rfl
    have HK2 := hid hbw
    clear hm hbw
    go_wp2_with fail
    refine (HVAL.out _ HK2.out).mono ?_
    rintro e w3 ⟨rfl, hb3⟩
    have HK3 := hid (bCl HK2.out hb3)
    clear hb3
    go_wp2_with fail
    go_ret
    exact ⟨rfl, HK3.out⟩
  | true =>
  rw [hvt] at HVAL
  have CL : Hid (∀ W, Below w.heap.size w W → Calls Tryz.prog 33 #[.agg #[.int .i64 t.kind, .string t.text, .int .i64 t.cols, .slice A t.kids.length cap]] W (AllRes W true (allS [] t))) := fun W hW => by
    have h := rAll_any t A cap W (hv.below hW hW.size) hok.2.2 (by omega)
    rw [hvt] at h
    exact h
  have CM0 : Hid (∀ W (q : List Int) Aq cq, Below w.heap.size w W → posIn t q = true → IntsR W (Lt W.heap.size) q (.slice Aq q.length cq) → Calls Tryz.prog 29 #[.agg #[.int .i64 t.kind, .string t.text, .int .i64 t.cols, .slice A t.kids.length cap], .agg #[.int .i64 2, .string ⟨#[]⟩, .int .i64 0, .int .i64 1, .int .i64 1, .int .i64 1, .int .i64 0, .int .i64 0, .slice none 0 0, .int .i64 0, .slice none 0 0], .slice Aq q.length cq, .int .i64 0] W (PosRes W (moveS t q 0))) := fun W q Aq cq hW hq hi =>
    move0_any t (ruleB 1 1 1) q A none none Aq cap 0 0 cq W (hv.below hW hW.size) hok (ruleIn W 1 1 1 (by simp [In64]) (by simp [In64]) (by simp [In64])) hi hvt rule1_valid hq
  have CM1 : Hid (∀ W (q : List Int) Aq cq, Below w.heap.size w W → posIn t q = true → IntsR W (Lt W.heap.size) q (.slice Aq q.length cq) → Calls Tryz.prog 29 #[.agg #[.int .i64 t.kind, .string t.text, .int .i64 t.cols, .slice A t.kids.length cap], .agg #[.int .i64 2, .string ⟨#[]⟩, .int .i64 0, .int .i64 1, .int .i64 1, .int .i64 1, .int .i64 0, .int .i64 0, .slice none 0 0, .int .i64 0, .slice none 0 0], .slice Aq q.length cq, .int .i64 1] W (PosRes W (moveS t q 1))) := fun W q Aq cq hW hq hi =>
    move1_any t (ruleB 1 1 1) q A none none Aq cap 0 0 cq W (hv.below hW hW.size) hok (ruleIn W 1 1 1 (by simp [In64]) (by simp [In64]) (by simp [In64])) hi hvt rule1_valid hq
  have HSAME : Hid (∀ W (q : List Int) Aq Ar cq cr, IntsR W (Lt W.heap.size) q (.slice Aq q.length cq) → IntsR W (Lt W.heap.size) q (.slice Ar q.length cr) → Calls Tryz.prog 25 #[.slice Aq q.length cq, .slice Ar q.length cr] W fun e w' => e = .returned (.bool true) ∧ ∃ n, w' = W.drewN n) := fun W q Aq Ar cq cr h1 h2 => by
    have h := sameI_q q q W _ _ Aq Ar cq cr h1 h2
    rw [decide_eq_true rfl] at h
    exact h
  have hL0 : 0 < (allS [] t).length := allS_pos t
  have hLL := allS_le t (by omega)
  obtain ⟨j, hj, hj2⟩ : ∃ j : Nat, (n0 : Int) % ((allS [] t).length : Int) = (j : Int) ∧ j < (allS [] t).length := ⟨n0 % (allS [] t).length, by omega, Nat.mod_lt _ hL0⟩
  have CR : Hid (∀ W Aq cq, Below w.heap.size w W → IntsR W (Lt W.heap.size) (allS [] t)[j] (.slice Aq (allS [] t)[j].length cq) → Calls Tryz.prog 29 #[.agg #[.int .i64 t.kind, .string t.text, .int .i64 t.cols, .slice A t.kids.length cap], .agg #[.int .i64 2, .string ⟨#[]⟩, .int .i64 0, .int .i64 1, .int .i64 1, .int .i64 1, .int .i64 0, .int .i64 0, .slice none 0 0, .int .i64 0, .slice none 0 0], .slice Aq (allS [] t)[j].length cq, .int .i64 1] W (PosRes W ((allS [] t).getD (j + 1) [], if j + 1 < (allS [] t).length then 0 else 8))) := fun W Aq cq hW hi => by
    have h := CM1.out W _ Aq cq hW (all_posIn hj2) hi
    rw [right_next hvt hj2] at h
    exact h
  have CLF : Hid (∀ W Aq cq, Below w.heap.size w W → IntsR W (Lt W.heap.size) (allS [] t)[j] (.slice Aq (allS [] t)[j].length cq) → Calls Tryz.prog 29 #[.agg #[.int .i64 t.kind, .string t.text, .int .i64 t.cols, .slice A t.kids.length cap], .agg #[.int .i64 2, .string ⟨#[]⟩, .int .i64 0, .int .i64 1, .int .i64 1, .int .i64 1, .int .i64 0, .int .i64 0, .slice none 0 0, .int .i64 0, .slice none 0 0], .slice Aq (allS [] t)[j].length cq, .int .i64 0] W (PosRes W ((if j = 0 then [] else (allS [] t).getD (j - 1) []), if j = 0 then 8 else 0))) := fun W Aq cq hW hi => by
    have h := CM0.out W _ Aq cq hW (all_posIn hj2) hi
    rw [left_prev hvt hj2] at h
    exact h
  have CB1 : Hid (j + 1 < (allS [] t).length → ∀ W Aq cq, Below w.heap.size w W → IntsR W (Lt W.heap.size) ((allS [] t).getD (j + 1) []) (.slice Aq ((allS [] t).getD (j + 1) []).length cq) → Calls Tryz.prog 29 #[.agg #[.int .i64 t.kind, .string t.text, .int .i64 t.cols, .slice A t.kids.length cap], .agg #[.int .i64 2, .string ⟨#[]⟩, .int .i64 0, .int .i64 1, .int .i64 1, .int .i64 1, .int .i64 0, .int .i64 0, .slice none 0 0, .int .i64 0, .slice none 0 0], .slice Aq ((allS [] t).getD (j + 1) []).length cq, .int .i64 0] W (PosRes W ((allS [] t)[j], 0))) := fun h1 W Aq cq hW hi => by
    have hb := back_left hvt hj2 h1
    have h := CM0.out W _ Aq cq hW hb.1 hi
    rw [hb.2] at h
    exact h
  have CB2 : Hid (j ≠ 0 → ∀ W Aq cq, Below w.heap.size w W → IntsR W (Lt W.heap.size) (if j = 0 then [] else (allS [] t).getD (j - 1) []) (.slice Aq (if j = 0 then [] else (allS [] t).getD (j - 1) []).length cq) → Calls Tryz.prog 29 #[.agg #[.int .i64 t.kind, .string t.text, .int .i64 t.cols, .slice A t.kids.length cap], .agg #[.int .i64 2, .string ⟨#[]⟩, .int .i64 0, .int .i64 1, .int .i64 1, .int .i64 1, .int .i64 0, .int .i64 0, .slice none 0 0, .int .i64 0, .slice none 0 0], .slice Aq (if j = 0 then [] else (allS [] t).getD (j - 1) []).length cq, .int .i64 1] W (PosRes W ((allS [] t)[j], 0))) := fun h1 W Aq cq hW hi => by
    have hb := back_right hvt hj2 h1
    have h := CM1.out W _ Aq cq hW hb.1 hi
    rw [hb.2] at h
    exact h
  clear CM0 CM1
  generalize allS [] t = L at *
  generalize hnr : L.getD (j + 1) [] = nr at *
  generalize hnl : (if j = 0 then [] else L.getD (j - 1) []) = nl at *
  obtain ⟨tk, tx, tc, ts⟩ := t
  simp only [Tree.kind, Tree.text, Tree.cols, Tree.kids] at *
  clear hf hv hok hz0 hB0 hb4 hct hvt hnr hnl
  by_cases hr : j + 1 < L.length
  · by_cases hl : j = 0
    · have d1 : decide ((j : Int) + 1 < (L.length : Int)) = true := by rw [decide_eq_true_eq]; omega
      have d2 : decide ((0 : Int) < (j : Int)) = false := by rw [decide_eq_false_iff_not]; omega
      have d3 : decide (0 < j) = false := by rw [decide_eq_false_iff_not]; omega
      rw [if_pos hr] at CR
      rw [if_pos hl] at CLF
      have HR0 := hid hr
      have HL0 := hid hl
      clear hr hl
      go_enter Tryz.func8, Tryz.ntmps8
      go_wp2_with fail
      refine (awake42_any _).mono ?_
      rintro e w1 ⟨rfl, hb1⟩
      have HT1 := hid hb1
      clear hb1 hW0
      obtain ⟨hm, hbw⟩ := KB.out w1 HT1.out
      have m0 := hm 0 _ rfl
      have m1 := hm 1 _ rfl
      have m2 := hm 2 _ rfl
      have m3 := hm 3 _ rfl
      have HK1 := hid hbw
      clear hm hbw
      go_wp2_with fail
      refine (HFEW.out _ HK1.out).mono ?_
      rintro e w2 ⟨rfl, hb2⟩
      have HT2 := hid (bCl HT1.out hb2)
      clear hb2 m0 m1 m2 m3
      obtain ⟨hm, hbw⟩ := KB.out w2 HT2.out
      have m0 := hm 0 _ rfl
      have m1 := hm 1 _ rfl
      have m2 := hm 2 _ rfl
      have m3 := hm 3 _ rfl
      have HK2 := hid hbw
      clear hm hbw
      go_wp2_with fail
      refine (HVAL.out _ HK2.out).mono ?_
      rintro e w3 ⟨rfl, hb3⟩
      have HT3 := hid (bCl HT2.out hb3)
      clear hb3 m0 m1 m2 m3
      obtain ⟨hm, hbw⟩ := KB.out w3 HT3.out
      have m0 := hm 0 _ rfl
      have m1 := hm 1 _ rfl
      have m2 := hm 2 _ rfl
      have m3 := hm 3 _ rfl
      have HK3 := hid hbw
      clear hm hbw
      go_wp2_with fail
      refine (rule_any _ _ _ _).mono ?_
      rintro e w4 ⟨rfl, hb4⟩
      have HT4 := hid (bCl HT3.out hb4)
      clear hb4 m0 m1 m2 m3
      go_upto_region 6 with fail
      obtain ⟨Y, hY⟩ : ∃ Y, w4.alloc (Obj.cells #[.int .i64 2, .string ⟨#[]⟩, .int .i64 0, .int .i64 1, .int .i64 1, .int .i64 1, .int .i64 0, .int .i64 0, .slice none 0 0, .int .i64 0, .slice none 0 0] 28) = Y := ⟨_, rfl⟩
      rw [hY]
      have hy1 : MovBox Y w4.heap.size #[.int .i64 2, .string ⟨#[]⟩, .int .i64 0, .int .i64 1, .int .i64 1, .int .i64 1, .int .i64 0, .int .i64 0, .slice none 0 0, .int .i64 0, .slice none 0 0] := by rw [← hY]; exact MovBox.new _ _ _ _ rfl
      have hy2 : Below w4.heap.size w4 Y := by rw [← hY]; exact bNew _ _
      have hy3 : w4.heap.size < Y.heap.size := by rw [← hY]; simp
      have HTY := hid (bCl HT4.out hy2)
      have KY : Hid (∀ W, Below Y.heap.size Y W → MovBox W w.heap.size #[.int .i64 tk, .string tx, .int .i64 tc, .slice A ts.length cap] ∧ MovBox W w4.heap.size #[.int .i64 2, .string ⟨#[]⟩, .int .i64 0, .int .i64 1, .int .i64 1, .int .i64 1, .int .i64 0, .int .i64 0, .slice none 0 0, .int .i64 0, .slice none 0 0] ∧ Below w.heap.size w W) := fun W hW => by
        obtain ⟨h1, h2⟩ := KB.out W (bCl HTY.out hW)
        exact ⟨h1, hy1.below hW hy3, h2⟩
      clear hY hy1 hy2 hy3
      obtain ⟨hm, hn, hbw⟩ := KY.out Y (Below.refl _ _)
      have m0 := hm 0 _ rfl
      have m1 := hm 1 _ rfl
      have m2 := hm 2 _ rfl
      have m3 := hm 3 _ rfl
      have n0 := hn 0 _ rfl
      have n1 := hn 1 _ rfl
      have n2 := hn 2 _ rfl
      have n3 := hn 3 _ rfl
      have n4 := hn 4 _ rfl
      have n5 := hn 5 _ rfl
      have n6 := hn 6 _ rfl
      have n7 := hn 7 _ rfl
      have n8 := hn 8 _ rfl
      have n9 := hn 9 _ rfl
      have n10 := hn 10 _ rfl
      have HKY := hid hbw
      clear hm hn hbw
      go_wp2_with fail
      refine (CL.out _ HKY.out).mono ?_
      rintro e w6 ⟨hb6, (⟨h, _⟩ | ⟨_, v6, rfl, hr6⟩)⟩
      case inl => cases h
      obtain ⟨A6, c6, rfl⟩ := hr6.rows.form
      have HT6 := hid hb6
      have HR6 := hid hr6.rowsLt
      clear hb6 hr6
      clear m0 m1 m2 m3 n0 n1 n2 n3 n4 n5 n6 n7 n8 n9 n10
      obtain ⟨_, _, rs, hq, _, _, hrd, hls⟩ := HR6.out
      cases hq
      obtain ⟨g, o, A3, c3, rs3, rfl, hg, q0, h5, h6, h7, h8⟩ := rows_at hrd hls hj2
      have hpj : IntsR w6 (Lt w6.heap.size) L[j] (.slice A3 L[j].length c3) := ⟨_, _, rs3, rfl, h5, h6, h7, h8⟩
      have hgl : g < w6.heap.size := hg
      have KX : Hid (∀ W, Below w6.heap.size w6 W → MovBox W w.heap.size #[.int .i64 tk, .string tx, .int .i64 tc, .slice A ts.length cap] ∧ MovBox W w4.heap.size #[.int .i64 2, .string ⟨#[]⟩, .int .i64 0, .int .i64 1, .int .i64 1, .int .i64 1, .int .i64 0, .int .i64 0, .slice none 0 0, .int .i64 0, .slice none 0 0] ∧ W.cell? ⟨g, o + j, none⟩ = some (.slice A3 L[j].length c3) ∧ Below w.heap.size w W ∧ IntsR W (Lt W.heap.size) L[j] (.slice A3 L[j].length c3)) := fun W hW => by
        obtain ⟨h1, h2, h3⟩ := KY.out W (bCl HT6.out hW)
        exact ⟨h1, h2, (hW.cell (p := ⟨g, o + j, none⟩) hgl).trans q0, h3, hpj.below hW hW.size⟩
      clear hrd hls h5 h6 h7 h8 q0 hpj hg hgl
      generalize hpjj : L[j] = pj at *
      clear hpjj
      obtain ⟨hm, hn, q0, _, _⟩ := KX.out w6 (Below.refl _ _)
      have m0 := hm 0 _ rfl
      have m1 := hm 1 _ rfl
      have m2 := hm 2 _ rfl
      have m3 := hm 3 _ rfl
      have n0 := hn 0 _ rfl
      have n1 := hn 1 _ rfl
      have n2 := hn 2 _ rfl
      have n3 := hn 3 _ rfl
      have n4 := hn 4 _ rfl
      have n5 := hn 5 _ rfl
      have n6 := hn 6 _ rfl
      have n7 := hn 7 _ rfl
      have n8 := hn 8 _ rfl
      have n9 := hn 9 _ rfl
      have n10 := hn 10 _ rfl
      clear hm hn
      have i6 : (0 : Int) ≤ (j : Int) := by omega
      have i7 : (j : Int) < (L.length : Int) := by omega
      have i8 : (L.length : Int) ≤ 2000000 := by omega
      have i9 : (1 : Int) ≤ (L.length : Int) := by omega
      have HD6 : Hid (Below w6.heap.size w6 w6.drew) := (Below.refl _ _).drew
      go_upto_region 8 with fail
      rw [hj]
      clear hj
      go_region_held3 (fun w' => w'.cell? ⟨w.heap.size, 0, none⟩ = some (.int .i64 tk) ∧ w'.cell? ⟨w.heap.size, 1, none⟩ = some (.string tx) ∧ w'.cell? ⟨w.heap.size, 2, none⟩ = some (.int .i64 tc) ∧ w'.cell? ⟨w.heap.size, 3, none⟩ = some (.slice A ts.length cap) ∧ w'.cell? ⟨w4.heap.size, 0, none⟩ = some (.int .i64 2) ∧ w'.cell? ⟨w4.heap.size, 1, none⟩ = some (.string ⟨#[]⟩) ∧ w'.cell? ⟨w4.heap.size, 2, none⟩ = some (.int .i64 0) ∧ w'.cell? ⟨w4.heap.size, 3, none⟩ = some (.int .i64 1) ∧ w'.cell? ⟨w4.heap.size, 4, none⟩ = some (.int .i64 1) ∧ w'.cell? ⟨w4.heap.size, 5, none⟩ = some (.int .i64 1) ∧ w'.cell? ⟨w4.heap.size, 6, none⟩ = some (.int .i64 0) ∧ w'.cell? ⟨w4.heap.size, 7, none⟩ = some (.int .i64 0) ∧ w'.cell? ⟨w4.heap.size, 8, none⟩ = some (.slice none 0 0) ∧ w'.cell? ⟨w4.heap.size, 9, none⟩ = some (.int .i64 0) ∧ w'.cell? ⟨w4.heap.size, 10, none⟩ = some (.slice none 0 0) ∧ w'.cell? ⟨g, o + j, none⟩ = some (.slice A3 pj.length c3)) (go_keep) (first | (go_at_call 29; (with_reducible refine (CR.out _ _ _ (KX.out _ HD6.out).2.2.2.1 (KX.out _ HD6.out).2.2.2.2).mono ?_); rintro e w8 ⟨hb8, v8, rfl, hi8⟩; obtain ⟨A8, c8, rfl⟩ := hi8.form; have HB8 : Hid (Below w6.heap.size w6 w8) := bDr hb8; have HI8 : Hid (IntsR w8 (Lt w8.heap.size) nr (.slice A8 nr.length c8)) := hi8.keep (fun _ _ => rfl) (fun _ h => h.2); clear hi8 hb8; obtain ⟨hm, hn, q0, _, _⟩ := KX.out w8 HB8.out; have m0 := hm 0 _ rfl; have m1 := hm 1 _ rfl; have m2 := hm 2 _ rfl; have m3 := hm 3 _ rfl; have n0 := hn 0 _ rfl; have n1 := hn 1 _ rfl; have n2 := hn 2 _ rfl; have n3 := hn 3 _ rfl; have n4 := hn 4 _ rfl; have n5 := hn 5 _ rfl; have n6 := hn 6 _ rfl; have n7 := hn 7 _ rfl; have n8 := hn 8 _ rfl; have n9 := hn 9 _ rfl; have n10 := hn 10 _ rfl; clear hm hn))
      go_upto_region 9 with fail
      have HD8 : Hid (Below w6.heap.size w6 w8.drew) := HB8.out.drew
      go_region_held3 (fun w' => w'.cell? ⟨w.heap.size, 0, none⟩ = some (.int .i64 tk) ∧ w'.cell? ⟨w.heap.size, 1, none⟩ = some (.string tx) ∧ w'.cell? ⟨w.heap.size, 2, none⟩ = some (.int .i64 tc) ∧ w'.cell? ⟨w.heap.size, 3, none⟩ = some (.slice A ts.length cap) ∧ w'.cell? ⟨w4.heap.size, 0, none⟩ = some (.int .i64 2) ∧ w'.cell? ⟨w4.heap.size, 1, none⟩ = some (.string ⟨#[]⟩) ∧ w'.cell? ⟨w4.heap.size, 2, none⟩ = some (.int .i64 0) ∧ w'.cell? ⟨w4.heap.size, 3, none⟩ = some (.int .i64 1) ∧ w'.cell? ⟨w4.heap.size, 4, none⟩ = some (.int .i64 1) ∧ w'.cell? ⟨w4.heap.size, 5, none⟩ = some (.int .i64 1) ∧ w'.cell? ⟨w4.heap.size, 6, none⟩ = some (.int .i64 0) ∧ w'.cell? ⟨w4.heap.size, 7, none⟩ = some (.int .i64 0) ∧ w'.cell? ⟨w4.heap.size, 8, none⟩ = some (.slice none 0 0) ∧ w'.cell? ⟨w4.heap.size, 9, none⟩ = some (.int .i64 0) ∧ w'.cell? ⟨w4.heap.size, 10, none⟩ = some (.slice none 0 0) ∧ w'.cell? ⟨g, o + j, none⟩ = some (.slice A3 pj.length c3)) (go_keep) (first | (go_at_call 29; (with_reducible refine (CLF.out _ _ _ (KX.out _ HD8.out).2.2.2.1 (KX.out _ HD8.out).2.2.2.2).mono ?_); rintro e w9 ⟨hb9, v9, rfl, hi9⟩; obtain ⟨A9, c9, rfl⟩ := hi9.form; have HB9 : Hid (Below w6.heap.size w6 w9) := bCl HD8.out hb9; have HJ9 : Hid (IntsR w9 (Lt w9.heap.size) nr (.slice A8 nr.length c8)) := HI8.out.below (bDr hb9) hb9.size; have HI9 : Hid (IntsR w9 (Lt w9.heap.size) nl (.slice A9 nl.length c9)) := hi9.keep (fun _ _ => rfl) (fun _ h => h.2); clear hi9 hb9; obtain ⟨hm, hn, q0, _, _⟩ := KX.out w9 HB9.out; have m0 := hm 0 _ rfl; have m1 := hm 1 _ rfl; have m2 := hm 2 _ rfl; have m3 := hm 3 _ rfl; have n0 := hn 0 _ rfl; have n1 := hn 1 _ rfl; have n2 := hn 2 _ rfl; have n3 := hn 3 _ rfl; have n4 := hn 4 _ rfl; have n5 := hn 5 _ rfl; have n6 := hn 6 _ rfl; have n7 := hn 7 _ rfl; have n8 := hn 8 _ rfl; have n9 := hn 9 _ rfl; have n10 := hn 10 _ rfl; clear hm hn))
      go_wp2_with fail
      refine ((CB1.out HR0.out) _ _ _ (KX.out _ HB9.out).2.2.2.1 HJ9.out).mono ?_
      rintro e w10 ⟨hb, v10, rfl, hi⟩
      obtain ⟨A10, c10, rfl⟩ := hi.form
      have HB10 := hid (bCl HB9.out hb)
      have HI10 : Hid (IntsR w10 (Lt w10.heap.size) pj (.slice A10 pj.length c10)) := hi.keep (fun _ _ => rfl) (fun _ h => h.2)
      have HN10 := hid (HI9.out.below hb hb.size)
      clear hi hb
      clear m0 m1 m2 m3 n0 n1 n2 n3 n4 n5 n6 n7 n8 n9 n10 q0
      obtain ⟨hm, hn, q0, _, _⟩ := KX.out w10 HB10.out
      have m0 := hm 0 _ rfl
      have m1 := hm 1 _ rfl
      have m2 := hm 2 _ rfl
      have m3 := hm 3 _ rfl
      have n0 := hn 0 _ rfl
      have n1 := hn 1 _ rfl
      have n2 := hn 2 _ rfl
      have n3 := hn 3 _ rfl
      have n4 := hn 4 _ rfl
      have n5 := hn 5 _ rfl
      have n6 := hn 6 _ rfl
      have n7 := hn 7 _ rfl
      have n8 := hn 8 _ rfl
      have n9 := hn 9 _ rfl
      have n10 := hn 10 _ rfl
      clear hm hn
      go_wp2_with fail
      refine (HSAME.out _ _ _ _ _ _ HI10.out (KX.out _ HB10.out).2.2.2.2).mono ?_
      rintro e w11 ⟨rfl, nd11, rfl⟩
      have HB11 : Hid (Below w6.heap.size w6 (w10.drewN nd11)) := bDn HB10.out _
      have HN11 : Hid (IntsR (w10.drewN nd11) (Lt (w10.drewN nd11).heap.size) nl (.slice A9 nl.length c9)) := HN10.out.keep (fun _ _ => rfl) (fun _ h => h)
      go_wp2_with fail
      go_ret
      exact ⟨rfl, (KX.out _ HB11.out).2.2.2.1⟩
    · have d1 : decide ((j : Int) + 1 < (L.length : Int)) = true := by rw [decide_eq_true_eq]; omega
      have d2 : decide ((0 : Int) < (j : Int)) = true := by rw [decide_eq_true_eq]; omega
      have d3 : decide (0 < j) = true := by rw [decide_eq_true_eq]; omega
      rw [if_pos hr] at CR
      rw [if_neg hl] at CLF
      have HR0 := hid hr
      have HL0 := hid hl
      clear hr hl
      go_enter Tryz.func8, Tryz.ntmps8
      go_wp2_with fail
      refine (awake42_any _).mono ?_
      rintro e w1 ⟨rfl, hb1⟩
      have HT1 := hid hb1
      clear hb1 hW0
      obtain ⟨hm, hbw⟩ := KB.out w1 HT1.out
      have m0 := hm 0 _ rfl
      have m1 := hm 1 _ rfl
      have m2 := hm 2 _ rfl
      have m3 := hm 3 _ rfl
      have HK1 := hid hbw
      clear hm hbw
      go_wp2_with fail
      refine (HFEW.out _ HK1.out).mono ?_
      rintro e w2 ⟨rfl, hb2⟩
      have HT2 := hid (bCl HT1.out hb2)
      clear hb2 m0 m1 m2 m3
      obtain ⟨hm, hbw⟩ := KB.out w2 HT2.out
      have m0 := hm 0 _ rfl
      have m1 := hm 1 _ rfl
      have m2 := hm 2 _ rfl
      have m3 := hm 3 _ rfl
      have HK2 := hid hbw
      clear hm hbw
      go_wp2_with fail
      refine (HVAL.out _ HK2.out).mono ?_
      rintro e w3 ⟨rfl, hb3⟩
      have HT3 := hid (bCl HT2.out hb3)
      clear hb3 m0 m1 m2 m3
      obtain ⟨hm, hbw⟩ := KB.out w3 HT3.out
      have m0 := hm 0 _ rfl
      have m1 := hm 1 _ rfl
      have m2 := hm 2 _ rfl
      have m3 := hm 3 _ rfl
      have HK3 := hid hbw
      clear hm hbw
      go_wp2_with fail
      refine (rule_any _ _ _ _).mono ?_
      rintro e w4 ⟨rfl, hb4⟩
      have HT4 := hid (bCl HT3.out hb4)
      clear hb4 m0 m1 m2 m3
      go_upto_region 6 with fail
      obtain ⟨Y, hY⟩ : ∃ Y, w4.alloc (Obj.cells #[.int .i64 2, .string ⟨#[]⟩, .int .i64 0, .int .i64 1, .int .i64 1, .int .i64 1, .int .i64 0, .int .i64 0, .slice none 0 0, .int .i64 0, .slice none 0 0] 28) = Y := ⟨_, rfl⟩
      rw [hY]
      have hy1 : MovBox Y w4.heap.size #[.int .i64 2, .string ⟨#[]⟩, .int .i64 0, .int .i64 1, .int .i64 1, .int .i64 1, .int .i64 0, .int .i64 0, .slice none 0 0, .int .i64 0, .slice none 0 0] := by rw [← hY]; exact MovBox.new _ _ _ _ rfl
      have hy2 : Below w4.heap.size w4 Y := by rw [← hY]; exact bNew _ _
      have hy3 : w4.heap.size < Y.heap.size := by rw [← hY]; simp
      have HTY := hid (bCl HT4.out hy2)
      have KY : Hid (∀ W, Below Y.heap.size Y W → MovBox W w.heap.size #[.int .i64 tk, .string tx, .int .i64 tc, .slice A ts.length cap] ∧ MovBox W w4.heap.size #[.int .i64 2, .string ⟨#[]⟩, .int .i64 0, .int .i64 1, .int .i64 1, .int .i64 1, .int .i64 0, .int .i64 0, .slice none 0 0, .int .i64 0, .slice none 0 0] ∧ Below w.heap.size w W) := fun W hW => by
        obtain ⟨h1, h2⟩ := KB.out W (bCl HTY.out hW)
        exact ⟨h1, hy1.below hW hy3, h2⟩
      clear hY hy1 hy2 hy3
      obtain ⟨hm, hn, hbw⟩ := KY.out Y (Below.refl _ _)
      have m0 := hm 0 _ rfl
      have m1 := hm 1 _ rfl
      have m2 := hm 2 _ rfl
      have m3 := hm 3 _ rfl
      have n0 := hn 0 _ rfl
      have n1 := hn 1 _ rfl
      have n2 := hn 2 _ rfl
      have n3 := hn 3 _ rfl
      have n4 := hn 4 _ rfl
      have n5 := hn 5 _ rfl
      have n6 := hn 6 _ rfl
      have n7 := hn 7 _ rfl
      have n8 := hn 8 _ rfl
      have n9 := hn 9 _ rfl
      have n10 := hn 10 _ rfl
      have HKY := hid hbw
      clear hm hn hbw
      go_wp2_with fail
      refine (CL.out _ HKY.out).mono ?_
      rintro e w6 ⟨hb6, (⟨h, _⟩ | ⟨_, v6, rfl, hr6⟩)⟩
      case inl => cases h
      obtain ⟨A6, c6, rfl⟩ := hr6.rows.form
      have HT6 := hid hb6
      have HR6 := hid hr6.rowsLt
      clear hb6 hr6
      clear m0 m1 m2 m3 n0 n1 n2 n3 n4 n5 n6 n7 n8 n9 n10
      obtain ⟨_, _, rs, hq, _, _, hrd, hls⟩ := HR6.out
      cases hq
      obtain ⟨g, o, A3, c3, rs3, rfl, hg, q0, h5, h6, h7, h8⟩ := rows_at hrd hls hj2
      have hpj : IntsR w6 (Lt w6.heap.size) L[j] (.slice A3 L[j].length c3) := ⟨_, _, rs3, rfl, h5, h6, h7, h8⟩
      have hgl : g < w6.heap.size := hg
      have KX : Hid (∀ W, Below w6.heap.size w6 W → MovBox W w.heap.size #[.int .i64 tk, .string tx, .int .i64 tc, .slice A ts.length cap] ∧ MovBox W w4.heap.size #[.int .i64 2, .string ⟨#[]⟩, .int .i64 0, .int .i64 1, .int .i64 1, .int .i64 1, .int .i64 0, .int .i64 0, .slice none 0 0, .int .i64 0, .slice none 0 0] ∧ W.cell? ⟨g, o + j, none⟩ = some (.slice A3 L[j].length c3) ∧ Below w.heap.size w W ∧ IntsR W (Lt W.heap.size) L[j] (.slice A3 L[j].length c3)) := fun W hW => by
        obtain ⟨h1, h2, h3⟩ := KY.out W (bCl HT6.out hW)
        exact ⟨h1, h2, (hW.cell (p := ⟨g, o + j, none⟩) hgl).trans q0, h3, hpj.below hW hW.size⟩
      clear hrd hls h5 h6 h7 h8 q0 hpj hg hgl
      generalize hpjj : L[j] = pj at *
      clear hpjj
      obtain ⟨hm, hn, q0, _, _⟩ := KX.out w6 (Below.refl _ _)
      have m0 := hm 0 _ rfl
      have m1 := hm 1 _ rfl
      have m2 := hm 2 _ rfl
      have m3 := hm 3 _ rfl
      have n0 := hn 0 _ rfl
      have n1 := hn 1 _ rfl
      have n2 := hn 2 _ rfl
      have n3 := hn 3 _ rfl
      have n4 := hn 4 _ rfl
      have n5 := hn 5 _ rfl
      have n6 := hn 6 _ rfl
      have n7 := hn 7 _ rfl
      have n8 := hn 8 _ rfl
      have n9 := hn 9 _ rfl
      have n10 := hn 10 _ rfl
      clear hm hn
      have i6 : (0 : Int) ≤ (j : Int) := by omega
      have i7 : (j : Int) < (L.length : Int) := by omega
      have i8 : (L.length : Int) ≤ 2000000 := by omega
      have i9 : (1 : Int) ≤ (L.length : Int) := by omega
      have HD6 : Hid (Below w6.heap.size w6 w6.drew) := (Below.refl _ _).drew
      go_upto_region 8 with fail
      rw [hj]
      clear hj
      go_region_held3 (fun w' => w'.cell? ⟨w.heap.size, 0, none⟩ = some (.int .i64 tk) ∧ w'.cell? ⟨w.heap.size, 1, none⟩ = some (.string tx) ∧ w'.cell? ⟨w.heap.size, 2, none⟩ = some (.int .i64 tc) ∧ w'.cell? ⟨w.heap.size, 3, none⟩ = some (.slice A ts.length cap) ∧ w'.cell? ⟨w4.heap.size, 0, none⟩ = some (.int .i64 2) ∧ w'.cell? ⟨w4.heap.size, 1, none⟩ = some (.string ⟨#[]⟩) ∧ w'.cell? ⟨w4.heap.size, 2, none⟩ = some (.int .i64 0) ∧ w'.cell? ⟨w4.heap.size, 3, none⟩ = some (.int .i64 1) ∧ w'.cell? ⟨w4.heap.size, 4, none⟩ = some (.int .i64 1) ∧ w'.cell? ⟨w4.heap.size, 5, none⟩ = some (.int .i64 1) ∧ w'.cell? ⟨w4.heap.size, 6, none⟩ = some (.int .i64 0) ∧ w'.cell? ⟨w4.heap.size, 7, none⟩ = some (.int .i64 0) ∧ w'.cell? ⟨w4.heap.size, 8, none⟩ = some (.slice none 0 0) ∧ w'.cell? ⟨w4.heap.size, 9, none⟩ = some (.int .i64 0) ∧ w'.cell? ⟨w4.heap.size, 10, none⟩ = some (.slice none 0 0) ∧ w'.cell? ⟨g, o + j, none⟩ = some (.slice A3 pj.length c3)) (go_keep) (first | (go_at_call 29; (with_reducible refine (CR.out _ _ _ (KX.out _ HD6.out).2.2.2.1 (KX.out _ HD6.out).2.2.2.2).mono ?_); rintro e w8 ⟨hb8, v8, rfl, hi8⟩; obtain ⟨A8, c8, rfl⟩ := hi8.form; have HB8 : Hid (Below w6.heap.size w6 w8) := bDr hb8; have HI8 : Hid (IntsR w8 (Lt w8.heap.size) nr (.slice A8 nr.length c8)) := hi8.keep (fun _ _ => rfl) (fun _ h => h.2); clear hi8 hb8; obtain ⟨hm, hn, q0, _, _⟩ := KX.out w8 HB8.out; have m0 := hm 0 _ rfl; have m1 := hm 1 _ rfl; have m2 := hm 2 _ rfl; have m3 := hm 3 _ rfl; have n0 := hn 0 _ rfl; have n1 := hn 1 _ rfl; have n2 := hn 2 _ rfl; have n3 := hn 3 _ rfl; have n4 := hn 4 _ rfl; have n5 := hn 5 _ rfl; have n6 := hn 6 _ rfl; have n7 := hn 7 _ rfl; have n8 := hn 8 _ rfl; have n9 := hn 9 _ rfl; have n10 := hn 10 _ rfl; clear hm hn))
      go_upto_region 9 with fail
      have HD8 : Hid (Below w6.heap.size w6 w8.drew) := HB8.out.drew
      go_region_held3 (fun w' => w'.cell? ⟨w.heap.size, 0, none⟩ = some (.int .i64 tk) ∧ w'.cell? ⟨w.heap.size, 1, none⟩ = some (.string tx) ∧ w'.cell? ⟨w.heap.size, 2, none⟩ = some (.int .i64 tc) ∧ w'.cell? ⟨w.heap.size, 3, none⟩ = some (.slice A ts.length cap) ∧ w'.cell? ⟨w4.heap.size, 0, none⟩ = some (.int .i64 2) ∧ w'.cell? ⟨w4.heap.size, 1, none⟩ = some (.string ⟨#[]⟩) ∧ w'.cell? ⟨w4.heap.size, 2, none⟩ = some (.int .i64 0) ∧ w'.cell? ⟨w4.heap.size, 3, none⟩ = some (.int .i64 1) ∧ w'.cell? ⟨w4.heap.size, 4, none⟩ = some (.int .i64 1) ∧ w'.cell? ⟨w4.heap.size, 5, none⟩ = some (.int .i64 1) ∧ w'.cell? ⟨w4.heap.size, 6, none⟩ = some (.int .i64 0) ∧ w'.cell? ⟨w4.heap.size, 7, none⟩ = some (.int .i64 0) ∧ w'.cell? ⟨w4.heap.size, 8, none⟩ = some (.slice none 0 0) ∧ w'.cell? ⟨w4.heap.size, 9, none⟩ = some (.int .i64 0) ∧ w'.cell? ⟨w4.heap.size, 10, none⟩ = some (.slice none 0 0) ∧ w'.cell? ⟨g, o + j, none⟩ = some (.slice A3 pj.length c3)) (go_keep) (first | (go_at_call 29; (with_reducible refine (CLF.out _ _ _ (KX.out _ HD8.out).2.2.2.1 (KX.out _ HD8.out).2.2.2.2).mono ?_); rintro e w9 ⟨hb9, v9, rfl, hi9⟩; obtain ⟨A9, c9, rfl⟩ := hi9.form; have HB9 : Hid (Below w6.heap.size w6 w9) := bCl HD8.out hb9; have HJ9 : Hid (IntsR w9 (Lt w9.heap.size) nr (.slice A8 nr.length c8)) := HI8.out.below (bDr hb9) hb9.size; have HI9 : Hid (IntsR w9 (Lt w9.heap.size) nl (.slice A9 nl.length c9)) := hi9.keep (fun _ _ => rfl) (fun _ h => h.2); clear hi9 hb9; obtain ⟨hm, hn, q0, _, _⟩ := KX.out w9 HB9.out; have m0 := hm 0 _ rfl; have m1 := hm 1 _ rfl; have m2 := hm 2 _ rfl; have m3 := hm 3 _ rfl; have n0 := hn 0 _ rfl; have n1 := hn 1 _ rfl; have n2 := hn 2 _ rfl; have n3 := hn 3 _ rfl; have n4 := hn 4 _ rfl; have n5 := hn 5 _ rfl; have n6 := hn 6 _ rfl; have n7 := hn 7 _ rfl; have n8 := hn 8 _ rfl; have n9 := hn 9 _ rfl; have n10 := hn 10 _ rfl; clear hm hn))
      go_wp2_with fail
      refine ((CB1.out HR0.out) _ _ _ (KX.out _ HB9.out).2.2.2.1 HJ9.out).mono ?_
      rintro e w10 ⟨hb, v10, rfl, hi⟩
      obtain ⟨A10, c10, rfl⟩ := hi.form
      have HB10 := hid (bCl HB9.out hb)
      have HI10 : Hid (IntsR w10 (Lt w10.heap.size) pj (.slice A10 pj.length c10)) := hi.keep (fun _ _ => rfl) (fun _ h => h.2)
      have HN10 := hid (HI9.out.below hb hb.size)
      clear hi hb
      clear m0 m1 m2 m3 n0 n1 n2 n3 n4 n5 n6 n7 n8 n9 n10 q0
      obtain ⟨hm, hn, q0, _, _⟩ := KX.out w10 HB10.out
      have m0 := hm 0 _ rfl
      have m1 := hm 1 _ rfl
      have m2 := hm 2 _ rfl
      have m3 := hm 3 _ rfl
      have n0 := hn 0 _ rfl
      have n1 := hn 1 _ rfl
      have n2 := hn 2 _ rfl
      have n3 := hn 3 _ rfl
      have n4 := hn 4 _ rfl
      have n5 := hn 5 _ rfl
      have n6 := hn 6 _ rfl
      have n7 := hn 7 _ rfl
      have n8 := hn 8 _ rfl
      have n9 := hn 9 _ rfl
      have n10 := hn 10 _ rfl
      clear hm hn
      go_wp2_with fail
      refine (HSAME.out _ _ _ _ _ _ HI10.out (KX.out _ HB10.out).2.2.2.2).mono ?_
      rintro e w11 ⟨rfl, nd11, rfl⟩
      have HB11 : Hid (Below w6.heap.size w6 (w10.drewN nd11)) := bDn HB10.out _
      have HN11 : Hid (IntsR (w10.drewN nd11) (Lt (w10.drewN nd11).heap.size) nl (.slice A9 nl.length c9)) := HN10.out.keep (fun _ _ => rfl) (fun _ h => h)
      go_wp2_with fail
      refine ((CB2.out HL0.out) _ _ _ (KX.out _ HB11.out).2.2.2.1 HN11.out).mono ?_
      rintro e w12 ⟨hb, v12, rfl, hi⟩
      obtain ⟨A12, c12, rfl⟩ := hi.form
      have HB12 := hid (bCl HB11.out hb)
      have HI12 : Hid (IntsR w12 (Lt w12.heap.size) pj (.slice A12 pj.length c12)) := hi.keep (fun _ _ => rfl) (fun _ h => h.2)
      clear hi hb
      clear m0 m1 m2 m3 n0 n1 n2 n3 n4 n5 n6 n7 n8 n9 n10 q0
      obtain ⟨hm, hn, q0, _, _⟩ := KX.out w12 HB12.out
      have m0 := hm 0 _ rfl
      have m1 := hm 1 _ rfl
      have m2 := hm 2 _ rfl
      have m3 := hm 3 _ rfl
      have n0 := hn 0 _ rfl
      have n1 := hn 1 _ rfl
      have n2 := hn 2 _ rfl
      have n3 := hn 3 _ rfl
      have n4 := hn 4 _ rfl
      have n5 := hn 5 _ rfl
      have n6 := hn 6 _ rfl
      have n7 := hn 7 _ rfl
      have n8 := hn 8 _ rfl
      have n9 := hn 9 _ rfl
      have n10 := hn 10 _ rfl
      clear hm hn
      go_wp2_with fail
      refine (HSAME.out _ _ _ _ _ _ HI12.out (KX.out _ HB12.out).2.2.2.2).mono ?_
      rintro e w13 ⟨rfl, nd13, rfl⟩
      have HB13 : Hid (Below w6.heap.size w6 (w12.drewN nd13)) := bDn HB12.out _
      go_wp2_with fail
      go_ret
      exact ⟨rfl, (KX.out _ HB13.out).2.2.2.1⟩
  · by_cases hl : j = 0
    · have d1 : decide ((j : Int) + 1 < (L.length : Int)) = false := by rw [decide_eq_false_iff_not]; omega
      have d2 : decide ((0 : Int) < (j : Int)) = false := by rw [decide_eq_false_iff_not]; omega
      have d3 : decide (0 < j) = false := by rw [decide_eq_false_iff_not]; omega
      rw [if_neg hr] at CR
      rw [if_pos hl] at CLF
      have HR0 := hid hr
      have HL0 := hid hl
      clear hr hl
      go_enter Tryz.func8, Tryz.ntmps8
      go_wp2_with fail
      refine (awake42_any _).mono ?_
      rintro e w1 ⟨rfl, hb1⟩
      have HT1 := hid hb1
      clear hb1 hW0
      obtain ⟨hm, hbw⟩ := KB.out w1 HT1.out
      have m0 := hm 0 _ rfl
      have m1 := hm 1 _ rfl
      have m2 := hm 2 _ rfl
      have m3 := hm 3 _ rfl
      have HK1 := hid hbw
      clear hm hbw
      go_wp2_with fail
      refine (HFEW.out _ HK1.out).mono ?_
      rintro e w2 ⟨rfl, hb2⟩
      have HT2 := hid (bCl HT1.out hb2)
      clear hb2 m0 m1 m2 m3
      obtain ⟨hm, hbw⟩ := KB.out w2 HT2.out
      have m0 := hm 0 _ rfl
      have m1 := hm 1 _ rfl
      have m2 := hm 2 _ rfl
      have m3 := hm 3 _ rfl
      have HK2 := hid hbw
      clear hm hbw
      go_wp2_with fail
      refine (HVAL.out _ HK2.out).mono ?_
      rintro e w3 ⟨rfl, hb3⟩
      have HT3 := hid (bCl HT2.out hb3)
      clear hb3 m0 m1 m2 m3
      obtain ⟨hm, hbw⟩ := KB.out w3 HT3.out
      have m0 := hm 0 _ rfl
      have m1 := hm 1 _ rfl
      have m2 := hm 2 _ rfl
      have m3 := hm 3 _ rfl
      have HK3 := hid hbw
      clear hm hbw
      go_wp2_with fail
      refine (rule_any _ _ _ _).mono ?_
      rintro e w4 ⟨rfl, hb4⟩
      have HT4 := hid (bCl HT3.out hb4)
      clear hb4 m0 m1 m2 m3
      go_upto_region 6 with fail
      obtain ⟨Y, hY⟩ : ∃ Y, w4.alloc (Obj.cells #[.int .i64 2, .string ⟨#[]⟩, .int .i64 0, .int .i64 1, .int .i64 1, .int .i64 1, .int .i64 0, .int .i64 0, .slice none 0 0, .int .i64 0, .slice none 0 0] 28) = Y := ⟨_, rfl⟩
      rw [hY]
      have hy1 : MovBox Y w4.heap.size #[.int .i64 2, .string ⟨#[]⟩, .int .i64 0, .int .i64 1, .int .i64 1, .int .i64 1, .int .i64 0, .int .i64 0, .slice none 0 0, .int .i64 0, .slice none 0 0] := by rw [← hY]; exact MovBox.new _ _ _ _ rfl
      have hy2 : Below w4.heap.size w4 Y := by rw [← hY]; exact bNew _ _
      have hy3 : w4.heap.size < Y.heap.size := by rw [← hY]; simp
      have HTY := hid (bCl HT4.out hy2)
      have KY : Hid (∀ W, Below Y.heap.size Y W → MovBox W w.heap.size #[.int .i64 tk, .string tx, .int .i64 tc, .slice A ts.length cap] ∧ MovBox W w4.heap.size #[.int .i64 2, .string ⟨#[]⟩, .int .i64 0, .int .i64 1, .int .i64 1, .int .i64 1, .int .i64 0, .int .i64 0, .slice none 0 0, .int .i64 0, .slice none 0 0] ∧ Below w.heap.size w W) := fun W hW => by
        obtain ⟨h1, h2⟩ := KB.out W (bCl HTY.out hW)
        exact ⟨h1, hy1.below hW hy3, h2⟩
      clear hY hy1 hy2 hy3
      obtain ⟨hm, hn, hbw⟩ := KY.out Y (Below.refl _ _)
      have m0 := hm 0 _ rfl
      have m1 := hm 1 _ rfl
      have m2 := hm 2 _ rfl
      have m3 := hm 3 _ rfl
      have n0 := hn 0 _ rfl
      have n1 := hn 1 _ rfl
      have n2 := hn 2 _ rfl
      have n3 := hn 3 _ rfl
      have n4 := hn 4 _ rfl
      have n5 := hn 5 _ rfl
      have n6 := hn 6 _ rfl
      have n7 := hn 7 _ rfl
      have n8 := hn 8 _ rfl
      have n9 := hn 9 _ rfl
      have n10 := hn 10 _ rfl
      have HKY := hid hbw
      clear hm hn hbw
      go_wp2_with fail
      refine (CL.out _ HKY.out).mono ?_
      rintro e w6 ⟨hb6, (⟨h, _⟩ | ⟨_, v6, rfl, hr6⟩)⟩
      case inl => cases h
      obtain ⟨A6, c6, rfl⟩ := hr6.rows.form
      have HT6 := hid hb6
      have HR6 := hid hr6.rowsLt
      clear hb6 hr6
      clear m0 m1 m2 m3 n0 n1 n2 n3 n4 n5 n6 n7 n8 n9 n10
      obtain ⟨_, _, rs, hq, _, _, hrd, hls⟩ := HR6.out
      cases hq
      obtain ⟨g, o, A3, c3, rs3, rfl, hg, q0, h5, h6, h7, h8⟩ := rows_at hrd hls hj2
      have hpj : IntsR w6 (Lt w6.heap.size) L[j] (.slice A3 L[j].length c3) := ⟨_, _, rs3, rfl, h5, h6, h7, h8⟩
      have hgl : g < w6.heap.size := hg
      have KX : Hid (∀ W, Below w6.heap.size w6 W → MovBox W w.heap.size #[.int .i64 tk, .string tx, .int .i64 tc, .slice A ts.length cap] ∧ MovBox W w4.heap.size #[.int .i64 2, .string ⟨#[]⟩, .int .i64 0, .int .i64 1, .int .i64 1, .int .i64 1, .int .i64 0, .int .i64 0, .slice none 0 0, .int .i64 0, .slice none 0 0] ∧ W.cell? ⟨g, o + j, none⟩ = some (.slice A3 L[j].length c3) ∧ Below w.heap.size w W ∧ IntsR W (Lt W.heap.size) L[j] (.slice A3 L[j].length c3)) := fun W hW => by
        obtain ⟨h1, h2, h3⟩ := KY.out W (bCl HT6.out hW)
        exact ⟨h1, h2, (hW.cell (p := ⟨g, o + j, none⟩) hgl).trans q0, h3, hpj.below hW hW.size⟩
      clear hrd hls h5 h6 h7 h8 q0 hpj hg hgl
      generalize hpjj : L[j] = pj at *
      clear hpjj
      obtain ⟨hm, hn, q0, _, _⟩ := KX.out w6 (Below.refl _ _)
      have m0 := hm 0 _ rfl
      have m1 := hm 1 _ rfl
      have m2 := hm 2 _ rfl
      have m3 := hm 3 _ rfl
      have n0 := hn 0 _ rfl
      have n1 := hn 1 _ rfl
      have n2 := hn 2 _ rfl
      have n3 := hn 3 _ rfl
      have n4 := hn 4 _ rfl
      have n5 := hn 5 _ rfl
      have n6 := hn 6 _ rfl
      have n7 := hn 7 _ rfl
      have n8 := hn 8 _ rfl
      have n9 := hn 9 _ rfl
      have n10 := hn 10 _ rfl
      clear hm hn
      have i6 : (0 : Int) ≤ (j : Int) := by omega
      have i7 : (j : Int) < (L.length : Int) := by omega
      have i8 : (L.length : Int) ≤ 2000000 := by omega
      have i9 : (1 : Int) ≤ (L.length : Int) := by omega
      have HD6 : Hid (Below w6.heap.size w6 w6.drew) := (Below.refl _ _).drew
      go_upto_region 8 with fail
      rw [hj]
      clear hj
      go_region_held3 (fun w' => w'.cell? ⟨w.heap.size, 0, none⟩ = some (.int .i64 tk) ∧ w'.cell? ⟨w.heap.size, 1, none⟩ = some (.string tx) ∧ w'.cell? ⟨w.heap.size, 2, none⟩ = some (.int .i64 tc) ∧ w'.cell? ⟨w.heap.size, 3, none⟩ = some (.slice A ts.length cap) ∧ w'.cell? ⟨w4.heap.size, 0, none⟩ = some (.int .i64 2) ∧ w'.cell? ⟨w4.heap.size, 1, none⟩ = some (.string ⟨#[]⟩) ∧ w'.cell? ⟨w4.heap.size, 2, none⟩ = some (.int .i64 0) ∧ w'.cell? ⟨w4.heap.size, 3, none⟩ = some (.int .i64 1) ∧ w'.cell? ⟨w4.heap.size, 4, none⟩ = some (.int .i64 1) ∧ w'.cell? ⟨w4.heap.size, 5, none⟩ = some (.int .i64 1) ∧ w'.cell? ⟨w4.heap.size, 6, none⟩ = some (.int .i64 0) ∧ w'.cell? ⟨w4.heap.size, 7, none⟩ = some (.int .i64 0) ∧ w'.cell? ⟨w4.heap.size, 8, none⟩ = some (.slice none 0 0) ∧ w'.cell? ⟨w4.heap.size, 9, none⟩ = some (.int .i64 0) ∧ w'.cell? ⟨w4.heap.size, 10, none⟩ = some (.slice none 0 0) ∧ w'.cell? ⟨g, o + j, none⟩ = some (.slice A3 pj.length c3)) (go_keep) (first | (go_at_call 29; (with_reducible refine (CR.out _ _ _ (KX.out _ HD6.out).2.2.2.1 (KX.out _ HD6.out).2.2.2.2).mono ?_); rintro e w8 ⟨hb8, v8, rfl, hi8⟩; obtain ⟨A8, c8, rfl⟩ := hi8.form; have HB8 : Hid (Below w6.heap.size w6 w8) := bDr hb8; have HI8 : Hid (IntsR w8 (Lt w8.heap.size) nr (.slice A8 nr.length c8)) := hi8.keep (fun _ _ => rfl) (fun _ h => h.2); clear hi8 hb8; obtain ⟨hm, hn, q0, _, _⟩ := KX.out w8 HB8.out; have m0 := hm 0 _ rfl; have m1 := hm 1 _ rfl; have m2 := hm 2 _ rfl; have m3 := hm 3 _ rfl; have n0 := hn 0 _ rfl; have n1 := hn 1 _ rfl; have n2 := hn 2 _ rfl; have n3 := hn 3 _ rfl; have n4 := hn 4 _ rfl; have n5 := hn 5 _ rfl; have n6 := hn 6 _ rfl; have n7 := hn 7 _ rfl; have n8 := hn 8 _ rfl; have n9 := hn 9 _ rfl; have n10 := hn 10 _ rfl; clear hm hn))
      go_upto_region 9 with fail
      have HD8 : Hid (Below w6.heap.size w6 w8.drew) := HB8.out.drew
      go_region_held3 (fun w' => w'.cell? ⟨w.heap.size, 0, none⟩ = some (.int .i64 tk) ∧ w'.cell? ⟨w.heap.size, 1, none⟩ = some (.string tx) ∧ w'.cell? ⟨w.heap.size, 2, none⟩ = some (.int .i64 tc) ∧ w'.cell? ⟨w.heap.size, 3, none⟩ = some (.slice A ts.length cap) ∧ w'.cell? ⟨w4.heap.size, 0, none⟩ = some (.int .i64 2) ∧ w'.cell? ⟨w4.heap.size, 1, none⟩ = some (.string ⟨#[]⟩) ∧ w'.cell? ⟨w4.heap.size, 2, none⟩ = some (.int .i64 0) ∧ w'.cell? ⟨w4.heap.size, 3, none⟩ = some (.int .i64 1) ∧ w'.cell? ⟨w4.heap.size, 4, none⟩ = some (.int .i64 1) ∧ w'.cell? ⟨w4.heap.size, 5, none⟩ = some (.int .i64 1) ∧ w'.cell? ⟨w4.heap.size, 6, none⟩ = some (.int .i64 0) ∧ w'.cell? ⟨w4.heap.size, 7, none⟩ = some (.int .i64 0) ∧ w'.cell? ⟨w4.heap.size, 8, none⟩ = some (.slice none 0 0) ∧ w'.cell? ⟨w4.heap.size, 9, none⟩ = some (.int .i64 0) ∧ w'.cell? ⟨w4.heap.size, 10, none⟩ = some (.slice none 0 0) ∧ w'.cell? ⟨g, o + j, none⟩ = some (.slice A3 pj.length c3)) (go_keep) (first | (go_at_call 29; (with_reducible refine (CLF.out _ _ _ (KX.out _ HD8.out).2.2.2.1 (KX.out _ HD8.out).2.2.2.2).mono ?_); rintro e w9 ⟨hb9, v9, rfl, hi9⟩; obtain ⟨A9, c9, rfl⟩ := hi9.form; have HB9 : Hid (Below w6.heap.size w6 w9) := bCl HD8.out hb9; have HJ9 : Hid (IntsR w9 (Lt w9.heap.size) nr (.slice A8 nr.length c8)) := HI8.out.below (bDr hb9) hb9.size; have HI9 : Hid (IntsR w9 (Lt w9.heap.size) nl (.slice A9 nl.length c9)) := hi9.keep (fun _ _ => rfl) (fun _ h => h.2); clear hi9 hb9; obtain ⟨hm, hn, q0, _, _⟩ := KX.out w9 HB9.out; have m0 := hm 0 _ rfl; have m1 := hm 1 _ rfl; have m2 := hm 2 _ rfl; have m3 := hm 3 _ rfl; have n0 := hn 0 _ rfl; have n1 := hn 1 _ rfl; have n2 := hn 2 _ rfl; have n3 := hn 3 _ rfl; have n4 := hn 4 _ rfl; have n5 := hn 5 _ rfl; have n6 := hn 6 _ rfl; have n7 := hn 7 _ rfl; have n8 := hn 8 _ rfl; have n9 := hn 9 _ rfl; have n10 := hn 10 _ rfl; clear hm hn))
      go_wp2_with fail
      go_ret
      exact ⟨rfl, (KX.out _ HB9.out).2.2.2.1⟩
    · have d1 : decide ((j : Int) + 1 < (L.length : Int)) = false := by rw [decide_eq_false_iff_not]; omega
      have d2 : decide ((0 : Int) < (j : Int)) = true := by rw [decide_eq_true_eq]; omega
      have d3 : decide (0 < j) = true := by rw [decide_eq_true_eq]; omega
      rw [if_neg hr] at CR
      rw [if_neg hl] at CLF
      have HR0 := hid hr
      have HL0 := hid hl
      clear hr hl
      go_enter Tryz.func8, Tryz.ntmps8
      go_wp2_with fail
      refine (awake42_any _).mono ?_
      rintro e w1 ⟨rfl, hb1⟩
      have HT1 := hid hb1
      clear hb1 hW0
      obtain ⟨hm, hbw⟩ := KB.out w1 HT1.out
      have m0 := hm 0 _ rfl
      have m1 := hm 1 _ rfl
      have m2 := hm 2 _ rfl
      have m3 := hm 3 _ rfl
      have HK1 := hid hbw
      clear hm hbw
      go_wp2_with fail
      refine (HFEW.out _ HK1.out).mono ?_
      rintro e w2 ⟨rfl, hb2⟩
      have HT2 := hid (bCl HT1.out hb2)
      clear hb2 m0 m1 m2 m3
      obtain ⟨hm, hbw⟩ := KB.out w2 HT2.out
      have m0 := hm 0 _ rfl
      have m1 := hm 1 _ rfl
      have m2 := hm 2 _ rfl
      have m3 := hm 3 _ rfl
      have HK2 := hid hbw
      clear hm hbw
      go_wp2_with fail
      refine (HVAL.out _ HK2.out).mono ?_
      rintro e w3 ⟨rfl, hb3⟩
      have HT3 := hid (bCl HT2.out hb3)
      clear hb3 m0 m1 m2 m3
      obtain ⟨hm, hbw⟩ := KB.out w3 HT3.out
      have m0 := hm 0 _ rfl
      have m1 := hm 1 _ rfl
      have m2 := hm 2 _ rfl
      have m3 := hm 3 _ rfl
      have HK3 := hid hbw
      clear hm hbw
      go_wp2_with fail
      refine (rule_any _ _ _ _).mono ?_
      rintro e w4 ⟨rfl, hb4⟩
      have HT4 := hid (bCl HT3.out hb4)
      clear hb4 m0 m1 m2 m3
      go_upto_region 6 with fail
      obtain ⟨Y, hY⟩ : ∃ Y, w4.alloc (Obj.cells #[.int .i64 2, .string ⟨#[]⟩, .int .i64 0, .int .i64 1, .int .i64 1, .int .i64 1, .int .i64 0, .int .i64 0, .slice none 0 0, .int .i64 0, .slice none 0 0] 28) = Y := ⟨_, rfl⟩
      rw [hY]
      have hy1 : MovBox Y w4.heap.size #[.int .i64 2, .string ⟨#[]⟩, .int .i64 0, .int .i64 1, .int .i64 1, .int .i64 1, .int .i64 0, .int .i64 0, .slice none 0 0, .int .i64 0, .slice none 0 0] := by rw [← hY]; exact MovBox.new _ _ _ _ rfl
      have hy2 : Below w4.heap.size w4 Y := by rw [← hY]; exact bNew _ _
      have hy3 : w4.heap.size < Y.heap.size := by rw [← hY]; simp
      have HTY := hid (bCl HT4.out hy2)
      have KY : Hid (∀ W, Below Y.heap.size Y W → MovBox W w.heap.size #[.int .i64 tk, .string tx, .int .i64 tc, .slice A ts.length cap] ∧ MovBox W w4.heap.size #[.int .i64 2, .string ⟨#[]⟩, .int .i64 0, .int .i64 1, .int .i64 1, .int .i64 1, .int .i64 0, .int .i64 0, .slice none 0 0, .int .i64 0, .slice none 0 0] ∧ Below w.heap.size w W) := fun W hW => by
        obtain ⟨h1, h2⟩ := KB.out W (bCl HTY.out hW)
        exact ⟨h1, hy1.below hW hy3, h2⟩
      clear hY hy1 hy2 hy3
      obtain ⟨hm, hn, hbw⟩ := KY.out Y (Below.refl _ _)
      have m0 := hm 0 _ rfl
      have m1 := hm 1 _ rfl
      have m2 := hm 2 _ rfl
      have m3 := hm 3 _ rfl
      have n0 := hn 0 _ rfl
      have n1 := hn 1 _ rfl
      have n2 := hn 2 _ rfl
      have n3 := hn 3 _ rfl
      have n4 := hn 4 _ rfl
      have n5 := hn 5 _ rfl
      have n6 := hn 6 _ rfl
      have n7 := hn 7 _ rfl
      have n8 := hn 8 _ rfl
      have n9 := hn 9 _ rfl
      have n10 := hn 10 _ rfl
      have HKY := hid hbw
      clear hm hn hbw
      go_wp2_with fail
      refine (CL.out _ HKY.out).mono ?_
      rintro e w6 ⟨hb6, (⟨h, _⟩ | ⟨_, v6, rfl, hr6⟩)⟩
      case inl => cases h
      obtain ⟨A6, c6, rfl⟩ := hr6.rows.form
      have HT6 := hid hb6
      have HR6 := hid hr6.rowsLt
      clear hb6 hr6
      clear m0 m1 m2 m3 n0 n1 n2 n3 n4 n5 n6 n7 n8 n9 n10
      obtain ⟨_, _, rs, hq, _, _, hrd, hls⟩ := HR6.out
      cases hq
      obtain ⟨g, o, A3, c3, rs3, rfl, hg, q0, h5, h6, h7, h8⟩ := rows_at hrd hls hj2
      have hpj : IntsR w6 (Lt w6.heap.size) L[j] (.slice A3 L[j].length c3) := ⟨_, _, rs3, rfl, h5, h6, h7, h8⟩
      have hgl : g < w6.heap.size := hg
      have KX : Hid (∀ W, Below w6.heap.size w6 W → MovBox W w.heap.size #[.int .i64 tk, .string tx, .int .i64 tc, .slice A ts.length cap] ∧ MovBox W w4.heap.size #[.int .i64 2, .string ⟨#[]⟩, .int .i64 0, .int .i64 1, .int .i64 1, .int .i64 1, .int .i64 0, .int .i64 0, .slice none 0 0, .int .i64 0, .slice none 0 0] ∧ W.cell? ⟨g, o + j, none⟩ = some (.slice A3 L[j].length c3) ∧ Below w.heap.size w W ∧ IntsR W (Lt W.heap.size) L[j] (.slice A3 L[j].length c3)) := fun W hW => by
        obtain ⟨h1, h2, h3⟩ := KY.out W (bCl HT6.out hW)
        exact ⟨h1, h2, (hW.cell (p := ⟨g, o + j, none⟩) hgl).trans q0, h3, hpj.below hW hW.size⟩
      clear hrd hls h5 h6 h7 h8 q0 hpj hg hgl
      generalize hpjj : L[j] = pj at *
      clear hpjj
      obtain ⟨hm, hn, q0, _, _⟩ := KX.out w6 (Below.refl _ _)
      have m0 := hm 0 _ rfl
      have m1 := hm 1 _ rfl
      have m2 := hm 2 _ rfl
      have m3 := hm 3 _ rfl
      have n0 := hn 0 _ rfl
      have n1 := hn 1 _ rfl
      have n2 := hn 2 _ rfl
      have n3 := hn 3 _ rfl
      have n4 := hn 4 _ rfl
      have n5 := hn 5 _ rfl
      have n6 := hn 6 _ rfl
      have n7 := hn 7 _ rfl
      have n8 := hn 8 _ rfl
      have n9 := hn 9 _ rfl
      have n10 := hn 10 _ rfl
      clear hm hn
      have i6 : (0 : Int) ≤ (j : Int) := by omega
      have i7 : (j : Int) < (L.length : Int) := by omega
      have i8 : (L.length : Int) ≤ 2000000 := by omega
      have i9 : (1 : Int) ≤ (L.length : Int) := by omega
      have HD6 : Hid (Below w6.heap.size w6 w6.drew) := (Below.refl _ _).drew
      go_upto_region 8 with fail
      rw [hj]
      clear hj
      go_region_held3 (fun w' => w'.cell? ⟨w.heap.size, 0, none⟩ = some (.int .i64 tk) ∧ w'.cell? ⟨w.heap.size, 1, none⟩ = some (.string tx) ∧ w'.cell? ⟨w.heap.size, 2, none⟩ = some (.int .i64 tc) ∧ w'.cell? ⟨w.heap.size, 3, none⟩ = some (.slice A ts.length cap) ∧ w'.cell? ⟨w4.heap.size, 0, none⟩ = some (.int .i64 2) ∧ w'.cell? ⟨w4.heap.size, 1, none⟩ = some (.string ⟨#[]⟩) ∧ w'.cell? ⟨w4.heap.size, 2, none⟩ = some (.int .i64 0) ∧ w'.cell? ⟨w4.heap.size, 3, none⟩ = some (.int .i64 1) ∧ w'.cell? ⟨w4.heap.size, 4, none⟩ = some (.int .i64 1) ∧ w'.cell? ⟨w4.heap.size, 5, none⟩ = some (.int .i64 1) ∧ w'.cell? ⟨w4.heap.size, 6, none⟩ = some (.int .i64 0) ∧ w'.cell? ⟨w4.heap.size, 7, none⟩ = some (.int .i64 0) ∧ w'.cell? ⟨w4.heap.size, 8, none⟩ = some (.slice none 0 0) ∧ w'.cell? ⟨w4.heap.size, 9, none⟩ = some (.int .i64 0) ∧ w'.cell? ⟨w4.heap.size, 10, none⟩ = some (.slice none 0 0) ∧ w'.cell? ⟨g, o + j, none⟩ = some (.slice A3 pj.length c3)) (go_keep) (first | (go_at_call 29; (with_reducible refine (CR.out _ _ _ (KX.out _ HD6.out).2.2.2.1 (KX.out _ HD6.out).2.2.2.2).mono ?_); rintro e w8 ⟨hb8, v8, rfl, hi8⟩; obtain ⟨A8, c8, rfl⟩ := hi8.form; have HB8 : Hid (Below w6.heap.size w6 w8) := bDr hb8; have HI8 : Hid (IntsR w8 (Lt w8.heap.size) nr (.slice A8 nr.length c8)) := hi8.keep (fun _ _ => rfl) (fun _ h => h.2); clear hi8 hb8; obtain ⟨hm, hn, q0, _, _⟩ := KX.out w8 HB8.out; have m0 := hm 0 _ rfl; have m1 := hm 1 _ rfl; have m2 := hm 2 _ rfl; have m3 := hm 3 _ rfl; have n0 := hn 0 _ rfl; have n1 := hn 1 _ rfl; have n2 := hn 2 _ rfl; have n3 := hn 3 _ rfl; have n4 := hn 4 _ rfl; have n5 := hn 5 _ rfl; have n6 := hn 6 _ rfl; have n7 := hn 7 _ rfl; have n8 := hn 8 _ rfl; have n9 := hn 9 _ rfl; have n10 := hn 10 _ rfl; clear hm hn))
      go_upto_region 9 with fail
      have HD8 : Hid (Below w6.heap.size w6 w8.drew) := HB8.out.drew
      go_region_held3 (fun w' => w'.cell? ⟨w.heap.size, 0, none⟩ = some (.int .i64 tk) ∧ w'.cell? ⟨w.heap.size, 1, none⟩ = some (.string tx) ∧ w'.cell? ⟨w.heap.size, 2, none⟩ = some (.int .i64 tc) ∧ w'.cell? ⟨w.heap.size, 3, none⟩ = some (.slice A ts.length cap) ∧ w'.cell? ⟨w4.heap.size, 0, none⟩ = some (.int .i64 2) ∧ w'.cell? ⟨w4.heap.size, 1, none⟩ = some (.string ⟨#[]⟩) ∧ w'.cell? ⟨w4.heap.size, 2, none⟩ = some (.int .i64 0) ∧ w'.cell? ⟨w4.heap.size, 3, none⟩ = some (.int .i64 1) ∧ w'.cell? ⟨w4.heap.size, 4, none⟩ = some (.int .i64 1) ∧ w'.cell? ⟨w4.heap.size, 5, none⟩ = some (.int .i64 1) ∧ w'.cell? ⟨w4.heap.size, 6, none⟩ = some (.int .i64 0) ∧ w'.cell? ⟨w4.heap.size, 7, none⟩ = some (.int .i64 0) ∧ w'.cell? ⟨w4.heap.size, 8, none⟩ = some (.slice none 0 0) ∧ w'.cell? ⟨w4.heap.size, 9, none⟩ = some (.int .i64 0) ∧ w'.cell? ⟨w4.heap.size, 10, none⟩ = some (.slice none 0 0) ∧ w'.cell? ⟨g, o + j, none⟩ = some (.slice A3 pj.length c3)) (go_keep) (first | (go_at_call 29; (with_reducible refine (CLF.out _ _ _ (KX.out _ HD8.out).2.2.2.1 (KX.out _ HD8.out).2.2.2.2).mono ?_); rintro e w9 ⟨hb9, v9, rfl, hi9⟩; obtain ⟨A9, c9, rfl⟩ := hi9.form; have HB9 : Hid (Below w6.heap.size w6 w9) := bCl HD8.out hb9; have HJ9 : Hid (IntsR w9 (Lt w9.heap.size) nr (.slice A8 nr.length c8)) := HI8.out.below (bDr hb9) hb9.size; have HI9 : Hid (IntsR w9 (Lt w9.heap.size) nl (.slice A9 nl.length c9)) := hi9.keep (fun _ _ => rfl) (fun _ h => h.2); clear hi9 hb9; obtain ⟨hm, hn, q0, _, _⟩ := KX.out w9 HB9.out; have m0 := hm 0 _ rfl; have m1 := hm 1 _ rfl; have m2 := hm 2 _ rfl; have m3 := hm 3 _ rfl; have n0 := hn 0 _ rfl; have n1 := hn 1 _ rfl; have n2 := hn 2 _ rfl; have n3 := hn 3 _ rfl; have n4 := hn 4 _ rfl; have n5 := hn 5 _ rfl; have n6 := hn 6 _ rfl; have n7 := hn 7 _ rfl; have n8 := hn 8 _ rfl; have n9 := hn 9 _ rfl; have n10 := hn 10 _ rfl; clear hm hn))
      go_wp2_with fail
      refine ((CB2.out HL0.out) _ _ _ (KX.out _ HB9.out).2.2.2.1 HI9.out).mono ?_
      rintro e w12 ⟨hb, v12, rfl, hi⟩
      obtain ⟨A12, c12, rfl⟩ := hi.form
      have HB12 := hid (bCl HB9.out hb)
      have HI12 : Hid (IntsR w12 (Lt w12.heap.size) pj (.slice A12 pj.length c12)) := hi.keep (fun _ _ => rfl) (fun _ h => h.2)
      clear hi hb
      clear m0 m1 m2 m3 n0 n1 n2 n3 n4 n5 n6 n7 n8 n9 n10 q0
      obtain ⟨hm, hn, q0, _, _⟩ := KX.out w12 HB12.out
      have m0 := hm 0 _ rfl
      have m1 := hm 1 _ rfl
      have m2 := hm 2 _ rfl
      have m3 := hm 3 _ rfl
      have n0 := hn 0 _ rfl
      have n1 := hn 1 _ rfl
      have n2 := hn 2 _ rfl
      have n3 := hn 3 _ rfl
      have n4 := hn 4 _ rfl
      have n5 := hn 5 _ rfl
      have n6 := hn 6 _ rfl
      have n7 := hn 7 _ rfl
      have n8 := hn 8 _ rfl
      have n9 := hn 9 _ rfl
      have n10 := hn 10 _ rfl
      clear hm hn
      go_wp2_with fail
      refine (HSAME.out _ _ _ _ _ _ HI12.out (KX.out _ HB12.out).2.2.2.2).mono ?_
      rintro e w13 ⟨rfl, nd13, rfl⟩
      have HB13 : Hid (Below w6.heap.size w6 (w12.drewN nd13)) := bDn HB12.out _
      go_wp2_with fail
      go_ret
      exact ⟨rfl, (KX.out _ HB13.out).2.2.2.1⟩
end Go.Proofs.YtbiloghgkmknbaaGreatDoor
