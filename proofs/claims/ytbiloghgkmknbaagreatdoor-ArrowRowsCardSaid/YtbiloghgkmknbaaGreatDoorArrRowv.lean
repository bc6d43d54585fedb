/- vinculumlaw42.ArrowRows: the walk. Written by wip/genlaw42.py. -/
import Derived.Test.YtbiloghgkmknbaaGreatDoorAwk42v
import Derived.Test.YtbiloghgkmknbaaGreatDoorArrUndv
import Derived.Deep.RegionHeld3
set_option linter.unusedVariables false
set_option linter.unusedSimpArgs false
set_option maxRecDepth 100000
namespace Go.Proofs.YtbiloghgkmknbaaGreatDoor
open Go.RowKit

set_option maxHeartbeats 2000000 in
/-- Row of a position: all but the last number. -/
theorem row42_any (A : Option Addr) (n c : Nat) (hc : n + 1 ≤ c) (hn : n ≤ 4000000) : ∃ A', (∀ W, Calls Tryz.prog 35 #[.slice A (n + 1) c] W fun e w' => e = .returned (.slice A' n c) ∧ ∃ k, w' = W.drewN k) ∧
    (∀ w S (xs : List Int), IntsR w S xs (.slice A (n + 1) c) → IntsR w S (xs.take n) (.slice A' n c)) := by
  obtain ⟨A', hsl, hcut⟩ := cut_h intE Tryz.underlying26 size_int A (n + 1) c n n rfl (by omega) hc
  refine ⟨A', fun W => ?_, hcut⟩
  clear hcut
  go_enter Tryz.func35, Tryz.ntmps35
  go_wp2_with fail
  go_ret
  exact ⟨rfl, 0, rfl⟩
theorem ints_cap {w : World} {S : Nat → Prop} {xs : List Int} {A : Option Addr} {n c : Nat} (h : IntsR w S xs (.slice A n c)) : n ≤ c := by
  obtain ⟨A, cap, cs, e, h1, _⟩ := h; injection e with _ _ e3; omega
set_option maxHeartbeats 8000000 in
theorem arrRow_walk (t : Tree) (u0 : Nat) (hu0 : u0 ≤ 65535) (A : Option Addr) (cap : Nat) (w : World) (hv : SliceR treeE w (Lt w.heap.size) t.kids (.slice A t.kids.length cap)) (hok : NodeOk t) :
    Calls Tryz.prog 10 #[.agg #[.int .i64 t.kind, .string t.text, .int .i64 t.cols, .slice A t.kids.length cap], .int .u16 (u0 : Int)] w fun e w' => e = .returned (.bool true) ∧ Below w.heap.size w w' := by
  have HFEW : Hid (∀ W, Below w.heap.size w W → Calls Tryz.prog 27 #[.agg #[.int .i64 t.kind, .string t.text, .int .i64 t.cols, .slice A t.kids.length cap], .int .i64 40] W fun e w' => e = .returned (.bool (fewS t 40)) ∧ Below W.heap.size W w') := fun W hW => few_any t W _ 40 (hv.below hW hW.size) (by omega) (by omega)
  generalize hW0 : w.alloc (Obj.cells #[.int .i64 t.kind, .string t.text, .int .i64 t.cols, .slice A t.kids.length cap] 24) = W0
  have hz0 : W0.heap.size = w.heap.size + 1 := by rw [← hW0]; simp
  have hB0 : Below w.heap.size w W0 := by rw [← hW0]; exact bNew _ _
  have hb4 : MovBox W0 w.heap.size #[.int .i64 t.kind, .string t.text, .int .i64 t.cols, .slice A t.kids.length cap] := by rw [← hW0]; exact MovBox.new w _ _ _ rfl
  have KB : Hid (∀ W, Below W0.heap.size W0 W → MovBox W w.heap.size #[.int .i64 t.kind, .string t.text, .int .i64 t.cols, .slice A t.kids.length cap] ∧ Below w.heap.size w W) := fun W hW => ⟨hb4.below hW (by omega), hB0.trans (hW.mono hB0.size)⟩
  cases hf : fewS t 40 with
  | false =>
    rw [hf] at HFEW
    obtain ⟨tk, tx, tc, ts⟩ := t
    simp only [Tree.kind, Tree.text, Tree.cols, Tree.kids] at *
    clear hf hv hok hz0 hB0 hb4
    go_enter Tryz.func10, Tryz.ntmps10
    go_wp2_with fail
    refine (awake42_any _).mono ?_
    rintro e w1 ⟨rfl, hb1⟩
    obtain ⟨hm, hbw⟩ := KB.out w1 hb1
    have m0 := hm 0 _ rfl
    have m1 := hm 1 _ rfl
    have m2 := hm 2 _ rfl
    have m3 := hm 3 _ rfl
    have HK1 := hid hbw
    clear hb1 hbw hm
    go_wp2_with fail
    refine (HFEW.out _ HK1.out).mono ?_
    rintro e w2 ⟨rfl, hb2⟩
    have HK2 := hid (bCl HK1.out hb2)
    clear hb2
    go_wp2_with fail
    go_ret
    exact ⟨rfl, HK2.out⟩
  | true =>
  rw [hf] at HFEW
  have hct : countS t ≤ 40 := by have := few_count hf; omega
  have HVAL : Hid (∀ W, Below w.heap.size w W → Calls Tryz.prog 31 #[.agg #[.int .i64 t.kind, .string t.text, .int .i64 t.cols, .slice A t.kids.length cap]] W fun e w' => e = .returned (.bool (validS t)) ∧ Below W.heap.size W w') := fun W hW => valid_any t A cap W (hv.below hW hW.size) hok.2.2 (by omega)
  cases hvt : validS t with
  | false =>
    rw [hvt] at HVAL
    obtain ⟨tk, tx, tc, ts⟩ := t
    simp only [Tree.kind, Tree.text, Tree.cols, Tree.kids] at *
    clear hf hv hok hz0 hB0 hb4 hct hvt
    go_enter Tryz.func10, Tryz.ntmps10
    go_wp2_with fail
    refine (awake42_any _).mono ?_
    rintro e w1 ⟨rfl, hb1⟩
    have HT1 := hid hb1
    clear hb1
    obtain ⟨hm, hbw⟩ := KB.out w1 HT1.out
    have m0 := hm 0 _ rfl
    have m1 := hm 1 _ rfl
    have m2 := hm 2 _ rfl
    have m3 := hm 3 _ rfl
    have HK1 := hid hbw
    clear hm hbw
    go_wp2_with fail
    refine (HFEW.out _ HK1.out).mono ?_
    rintro e w2 ⟨rfl, hb2⟩
    have HT2 := hid (bCl HT1.out hb2)
    clear hb2 m0 m1 m2 m3
    obtain ⟨hm, hbw⟩ := KB.out w2 HT2.out
    have m0 := hm 0 _ rfl
    have m1 := hm 1 _ rfl
    have m2 := hm 2 _ rfl
    have m3 := hm 3 _ rfl
    have HK2 := hid hbw
    clear hm hbw
    go_wp2_with fail
    refine (HVAL.out _ HK2.out).mono ?_
    rintro e w3 ⟨rfl, hb3⟩
    have HK3 := hid (bCl HK2.out hb3)
    clear hb3
    go_wp2_with fail
    go_ret
    exact ⟨rfl, HK3.out⟩
  | true =>
  rw [hvt] at HVAL
  have CL : Hid (∀ W, Below w.heap.size w W → Calls Tryz.prog 33 #[.agg #[.int .i64 t.kind, .string t.text, .int .i64 t.cols, .slice A t.kids.length cap]] W (AllRes W true (allS [] t))) := fun W hW => by
    have h := rAll_any t A cap W (hv.below hW hW.size) hok.2.2 (by omega)
    rw [hvt] at h
    exact h
  have CM2 : Hid (∀ W (q : List Int) Aq cq, Below w.heap.size w W → posIn t q = true → IntsR W (Lt W.heap.size) q (.slice Aq q.length cq) → Calls Tryz.prog 29 #[.agg #[.int .i64 t.kind, .string t.text, .int .i64 t.cols, .slice A t.kids.length cap], .agg #[.int .i64 2, .string ⟨#[]⟩, .int .i64 0, .int .i64 1, .int .i64 1, .int .i64 1, .int .i64 0, .int .i64 0, .slice none 0 0, .int .i64 0, .slice none 0 0], .slice Aq q.length cq, .int .i64 2] W (PosRes W (moveS t q 2))) := fun W q Aq cq hW hq hi =>
    move2_any t (ruleB 1 1 1) q A none none Aq cap 0 0 cq W (hv.below hW hW.size) hok (ruleIn W 1 1 1 (by simp [In64]) (by simp [In64]) (by simp [In64])) hi hvt rule1_valid hq
  have CM3 : Hid (∀ W (q : List Int) Aq cq, Below w.heap.size w W → posIn t q = true → IntsR W (Lt W.heap.size) q (.slice Aq q.length cq) → Calls Tryz.prog 29 #[.agg #[.int .i64 t.kind, .string t.text, .int .i64 t.cols, .slice A t.kids.length cap], .agg #[.int .i64 2, .string ⟨#[]⟩, .int .i64 0, .int .i64 1, .int .i64 1, .int .i64 1, .int .i64 0, .int .i64 0, .slice none 0 0, .int .i64 0, .slice none 0 0], .slice Aq q.length cq, .int .i64 3] W (PosRes W (moveS t q 3))) := fun W q Aq cq hW hq hi =>
    move3_any t (ruleB 1 1 1) q A none none Aq cap 0 0 cq W (hv.below hW hW.size) hok (ruleIn W 1 1 1 (by simp [In64]) (by simp [In64]) (by simp [In64])) hi hvt rule1_valid hq
  have HSAME : Hid (∀ W (q : List Int) Aq Ar cq cr, IntsR W (Lt W.heap.size) q (.slice Aq q.length cq) → IntsR W (Lt W.heap.size) q (.slice Ar q.length cr) → Calls Tryz.prog 25 #[.slice Aq q.length cq, .slice Ar q.length cr] W fun e w' => e = .returned (.bool true) ∧ ∃ n, w' = W.drewN n) := fun W q Aq Ar cq cr h1 h2 => by
    have h := sameI_q q q W _ _ Aq Ar cq cr h1 h2
    rw [decide_eq_true rfl] at h
    exact h
  have HROW : Hid (∀ (q : List Int) (t' : Tree) (hq : rowS t q = some t') W Aq cq, Below w.heap.size w W → IntsR W (Lt W.heap.size) q (.slice Aq q.length cq) → Calls Tryz.prog 34 #[.agg #[.int .i64 t.kind, .string t.text, .int .i64 t.cols, .slice A t.kids.length cap], .slice Aq q.length cq] W (RowP (Lt W.heap.size) W t'.kind t'.text t'.cols t'.kids 0)) := fun q t' hq W Aq cq hW hi => by
    have h := rRow_any t q A Aq cap cq W (hv.below hW hW.size) hok.2.2 (by omega) hi
    rw [rowRes_rowS hvt hq] at h
    exact h
  have hL0 : 0 < (allS [] t).length := allS_pos t
  have hLL := allS_le t (by omega)
  obtain ⟨j, hj, hj2⟩ : ∃ j : Nat, (u0 : Int) % ((allS [] t).length : Int) = (j : Int) ∧ j < (allS [] t).length := ⟨u0 % (allS [] t).length, by omega, Nat.mod_lt _ hL0⟩
  have hpin := all_posIn hj2
  obtain ⟨q, x, hqx⟩ := posIn_ne hpin
  rw [hqx] at hpin
  obtain ⟨t', hrow, hx0, hx1⟩ := posIn_row t q x hpin
  have hrl : rowLen t q = t'.kids.length := by rw [rowLen, hrow]
  have hq2 := move_row hvt hpin (d := 2) (.inl rfl)
  have hq3 := move_row hvt hpin (d := 3) (.inr rfl)
  rw [hrl] at hq2 hq3
  have hy2 : ((2 : Int) - 2) * (t'.kids.length : Int) = 0 := by omega
  have hy3 : ((3 : Int) - 2) * (t'.kids.length : Int) = t'.kids.length := by omega
  rw [hy2] at hq2
  rw [hy3] at hq3
  have hin2 : posIn t (q ++ [0]) = true := row_posIn t q t' 0 hrow (by omega) (by omega)
  have hin3 : posIn t (q ++ [(t'.kids.length : Int)]) = true := row_posIn t q t' _ hrow (by omega) (by omega)
  have hlen : ∀ y : Int, (q ++ [y]).length = q.length + 1 := fun y => by simp
  have C2A : Hid (∀ W Aq cq, Below w.heap.size w W → IntsR W (Lt W.heap.size) (q ++ [x]) (.slice Aq (q.length + 1) cq) → Calls Tryz.prog 29 #[.agg #[.int .i64 t.kind, .string t.text, .int .i64 t.cols, .slice A t.kids.length cap], .agg #[.int .i64 2, .string ⟨#[]⟩, .int .i64 0, .int .i64 1, .int .i64 1, .int .i64 1, .int .i64 0, .int .i64 0, .slice none 0 0, .int .i64 0, .slice none 0 0], .slice Aq (q.length + 1) cq, .int .i64 2] W (PosRes W (q ++ [0], 0))) := fun W Aq cq hW hi => by
    rw [← hlen x] at hi ⊢
    have h := CM2.out W _ Aq cq hW hpin hi
    rw [hq2.1] at h
    exact h
  have C2B : Hid (∀ W Aq cq, Below w.heap.size w W → IntsR W (Lt W.heap.size) (q ++ [0]) (.slice Aq (q.length + 1) cq) → Calls Tryz.prog 29 #[.agg #[.int .i64 t.kind, .string t.text, .int .i64 t.cols, .slice A t.kids.length cap], .agg #[.int .i64 2, .string ⟨#[]⟩, .int .i64 0, .int .i64 1, .int .i64 1, .int .i64 1, .int .i64 0, .int .i64 0, .slice none 0 0, .int .i64 0, .slice none 0 0], .slice Aq (q.length + 1) cq, .int .i64 2] W (PosRes W (q ++ [0], 0))) := fun W Aq cq hW hi => by
    rw [← hlen 0] at hi ⊢
    have h := CM2.out W _ Aq cq hW hin2 hi
    rw [hq2.2] at h
    exact h
  have C3A : Hid (∀ W Aq cq, Below w.heap.size w W → IntsR W (Lt W.heap.size) (q ++ [x]) (.slice Aq (q.length + 1) cq) → Calls Tryz.prog 29 #[.agg #[.int .i64 t.kind, .string t.text, .int .i64 t.cols, .slice A t.kids.length cap], .agg #[.int .i64 2, .string ⟨#[]⟩, .int .i64 0, .int .i64 1, .int .i64 1, .int .i64 1, .int .i64 0, .int .i64 0, .slice none 0 0, .int .i64 0, .slice none 0 0], .slice Aq (q.length + 1) cq, .int .i64 3] W (PosRes W (q ++ [(t'.kids.length : Int)], 0))) := fun W Aq cq hW hi => by
    rw [← hlen x] at hi ⊢
    have h := CM3.out W _ Aq cq hW hpin hi
    rw [hq3.1] at h
    exact h
  have C3B : Hid (∀ W Aq cq, Below w.heap.size w W → IntsR W (Lt W.heap.size) (q ++ [(t'.kids.length : Int)]) (.slice Aq (q.length + 1) cq) → Calls Tryz.prog 29 #[.agg #[.int .i64 t.kind, .string t.text, .int .i64 t.cols, .slice A t.kids.length cap], .agg #[.int .i64 2, .string ⟨#[]⟩, .int .i64 0, .int .i64 1, .int .i64 1, .int .i64 1, .int .i64 0, .int .i64 0, .slice none 0 0, .int .i64 0, .slice none 0 0], .slice Aq (q.length + 1) cq, .int .i64 3] W (PosRes W (q ++ [(t'.kids.length : Int)], 0))) := fun W Aq cq hW hi => by
    rw [← hlen (t'.kids.length : Int)] at hi ⊢
    have h := CM3.out W _ Aq cq hW hin3 hi
    rw [hq3.2] at h
    exact h
  have HROWQ := hid (HROW.out q t' hrow)
  have hpl : (allS [] t)[j].length = q.length + 1 := by rw [hqx, hlen]
  have hql : q.length ≤ 1000000 := by have h := (posIn_bd t _ hpin).1; have h2 := hlen x; have h3 := (valid_count hvt).2.2.2; omega
  have hrs0 : t'.kids.length ≤ 1000000 := by have h := (rowS_ok (w := w) (S := Lt w.heap.size) t q t' hrow hok ⟨_, hv⟩).2; have h2 := kids_cnt t'; omega
  have HQX := hid hqx
  clear HROW CM2 CM3 hpin hin2 hin3 hq2 hq3 hy2 hy3 hrl hrow hx0 hx1 hqx
  obtain ⟨rk, rx, rc, rs⟩ := t'
  simp only [Tree.kind, Tree.text, Tree.cols, Tree.kids] at HROWQ C2A C2B C3A C3B hrs0
  generalize allS [] t = L at *
  obtain ⟨tk, tx, tc, ts⟩ := t
  simp only [Tree.kind, Tree.text, Tree.cols, Tree.kids] at *
  clear hf hv hok hz0 hB0 hb4 hct hvt
  go_enter Tryz.func10, Tryz.ntmps10
  go_wp2_with fail
  refine (awake42_any _).mono ?_
  rintro e w1 ⟨rfl, hb1⟩
  have HT1 := hid hb1
  clear hb1 hW0
  obtain ⟨hm, hbw⟩ := KB.out w1 HT1.out
  have m0 := hm 0 _ rfl
  have m1 := hm 1 _ rfl
  have m2 := hm 2 _ rfl
  have m3 := hm 3 _ rfl
  have HK1 := hid hbw
  clear hm hbw
  go_wp2_with fail
  refine (HFEW.out _ HK1.out).mono ?_
  rintro e w2 ⟨rfl, hb2⟩
  have HT2 := hid (bCl HT1.out hb2)
  clear hb2 m0 m1 m2 m3
  obtain ⟨hm, hbw⟩ := KB.out w2 HT2.out
  have m0 := hm 0 _ rfl
  have m1 := hm 1 _ rfl
  have m2 := hm 2 _ rfl
  have m3 := hm 3 _ rfl
  have HK2 := hid hbw
  clear hm hbw
  go_wp2_with fail
  refine (HVAL.out _ HK2.out).mono ?_
  rintro e w3 ⟨rfl, hb3⟩
  have HT3 := hid (bCl HT2.out hb3)
  clear hb3 m0 m1 m2 m3
  obtain ⟨hm, hbw⟩ := KB.out w3 HT3.out
  have m0 := hm 0 _ rfl
  have m1 := hm 1 _ rfl
  have m2 := hm 2 _ rfl
  have m3 := hm 3 _ rfl
  have HK3 := hid hbw
  clear hm hbw
  go_wp2_with fail
  refine (rule_any _ _ _ _).mono ?_
  rintro e w4 ⟨rfl, hb4⟩
  have HT4 := hid (bCl HT3.out hb4)
  clear hb4 m0 m1 m2 m3
  go_upto_region 6 with fail
  obtain ⟨Y, hY⟩ : ∃ Y, w4.alloc (Obj.cells #[.int .i64 2, .string ⟨#[]⟩, .int .i64 0, .int .i64 1, .int .i64 1, .int .i64 1, .int .i64 0, .int .i64 0, .slice none 0 0, .int .i64 0, .slice none 0 0] 28) = Y := ⟨_, rfl⟩
  rw [hY]
  have hy1 : MovBox Y w4.heap.size #[.int .i64 2, .string ⟨#[]⟩, .int .i64 0, .int .i64 1, .int .i64 1, .int .i64 1, .int .i64 0, .int .i64 0, .slice none 0 0, .int .i64 0, .slice none 0 0] := by rw [← hY]; exact MovBox.new _ _ _ _ rfl
  have hy2 : Below w4.heap.size w4 Y := by rw [← hY]; exact bNew _ _
  have hy3 : w4.heap.size < Y.heap.size := by rw [← hY]; simp
  have HTY := hid (bCl HT4.out hy2)
  have KY : Hid (∀ W, Below Y.heap.size Y W → MovBox W w.heap.size #[.int .i64 tk, .string tx, .int .i64 tc, .slice A ts.length cap] ∧ MovBox W w4.heap.size #[.int .i64 2, .string ⟨#[]⟩, .int .i64 0, .int .i64 1, .int .i64 1, .int .i64 1, .int .i64 0, .int .i64 0, .slice none 0 0, .int .i64 0, .slice none 0 0] ∧ Below w.heap.size w W) := fun W hW => by
    obtain ⟨h1, h2⟩ := KB.out W (bCl HTY.out hW)
    exact ⟨h1, hy1.below hW hy3, h2⟩
  clear hY hy1 hy2 hy3
  obtain ⟨hm, hn, hbw⟩ := KY.out Y (Below.refl _ _)
  have m0 := hm 0 _ rfl
  have m1 := hm 1 _ rfl
  have m2 := hm 2 _ rfl
  have m3 := hm 3 _ rfl
  have n0 := hn 0 _ rfl
  have n1 := hn 1 _ rfl
  have n2 := hn 2 _ rfl
  have n3 := hn 3 _ rfl
  have n4 := hn 4 _ rfl
  have n5 := hn 5 _ rfl
  have n6 := hn 6 _ rfl
  have n7 := hn 7 _ rfl
  have n8 := hn 8 _ rfl
  have n9 := hn 9 _ rfl
  have n10 := hn 10 _ rfl
  have HKY := hid hbw
  clear hm hn hbw
  go_wp2_with fail
  refine (CL.out _ HKY.out).mono ?_
  rintro e w6 ⟨hb6, (⟨h, _⟩ | ⟨_, v6, rfl, hr6⟩)⟩
  case inl => cases h
  obtain ⟨A6, c6, rfl⟩ := hr6.rows.form
  have HT6 := hid hb6
  have HR6 := hid hr6.rowsLt
  clear hb6 hr6
  clear m0 m1 m2 m3 n0 n1 n2 n3 n4 n5 n6 n7 n8 n9 n10
  obtain ⟨_, _, rs6, hq, _, _, hrd, hls⟩ := HR6.out
  cases hq
  obtain ⟨g, o, A3, c3, rs3, rfl, hg, q0, h5, h6, h7, h8⟩ := rows_at hrd hls hj2
  have hpj : IntsR w6 (Lt w6.heap.size) L[j] (.slice A3 L[j].length c3) := ⟨_, _, rs3, rfl, h5, h6, h7, h8⟩
  rw [hpl] at hpj q0
  rw [HQX.out] at hpj
  have hc3 := ints_cap hpj
  obtain ⟨A4, hcall4, hcut4⟩ := row42_any A3 q.length c3 hc3 (by omega)
  have hq4 := hcut4 _ _ _ hpj
  rw [List.take_append_of_le_length (Nat.le_refl _), List.take_length] at hq4
  have HPJ : Hid (∀ W, Below w6.heap.size w6 W → IntsR W (Lt W.heap.size) (q ++ [x]) (.slice A3 (q.length + 1) c3)) := fun W hW => hpj.below hW hW.size
  have HQ4 : Hid (∀ W, Below w6.heap.size w6 W → IntsR W (Lt W.heap.size) q (.slice A4 q.length c3)) := fun W hW => hq4.below hW hW.size
  have HCUT : Hid (∀ W, Calls Tryz.prog 35 #[.slice A3 (q.length + 1) c3] W fun e w' => e = .returned (.slice A4 q.length c3) ∧ ∃ k, w' = W.drewN k) := hcall4
  have HCUTB : Hid (∀ W, Calls Tryz.prog 35 #[.slice A3 (q.length + 1) c3] W fun e w' => e = .returned (.slice A4 q.length c3) ∧ Below W.heap.size W w') := fun W => (hcall4 W).mono fun e w' ⟨he, k, hk⟩ => ⟨he, by rw [hk]; exact bDn (Below.refl _ _) k⟩
  have KX : Hid (∀ W, Below w6.heap.size w6 W → MovBox W w.heap.size #[.int .i64 tk, .string tx, .int .i64 tc, .slice A ts.length cap] ∧ MovBox W w4.heap.size #[.int .i64 2, .string ⟨#[]⟩, .int .i64 0, .int .i64 1, .int .i64 1, .int .i64 1, .int .i64 0, .int .i64 0, .slice none 0 0, .int .i64 0, .slice none 0 0] ∧ Below w.heap.size w W) := fun W hW => KY.out W (bCl HT6.out hW)
  clear hrd hls h5 h6 h7 h8 hpj hg hcall4 hcut4 hq4 hpl
  obtain ⟨hm, hn, hbw⟩ := KX.out w6 (Below.refl _ _)
  have m0 := hm 0 _ rfl
  have m1 := hm 1 _ rfl
  have m2 := hm 2 _ rfl
  have m3 := hm 3 _ rfl
  have n0 := hn 0 _ rfl
  have n1 := hn 1 _ rfl
  have n2 := hn 2 _ rfl
  have n3 := hn 3 _ rfl
  have n4 := hn 4 _ rfl
  have n5 := hn 5 _ rfl
  have n6 := hn 6 _ rfl
  have n7 := hn 7 _ rfl
  have n8 := hn 8 _ rfl
  have n9 := hn 9 _ rfl
  have n10 := hn 10 _ rfl
  clear hm hn
  have i6 : (0 : Int) ≤ (j : Int) := by omega
  have i7 : (j : Int) < (L.length : Int) := by omega
  have i8 : (L.length : Int) ≤ 2000000 := by omega
  have i9 : (1 : Int) ≤ (L.length : Int) := by omega
  have i10 : (0 : Int) ≤ (u0 : Int) % (L.length : Int) := by omega
  have i11 : (u0 : Int) % (L.length : Int) < (L.length : Int) := by omega
  have q1 : w6.cell? ⟨g, o + ((u0 : Int) % (L.length : Int)).toNat, none⟩ = some (.slice A3 (q.length + 1) c3) := by rw [hj]; exact q0
  have hjn : u0 % L.length = j := by omega
  have q2 : w6.cell? ⟨g, o + u0 % L.length, none⟩ = some (.slice A3 (q.length + 1) c3) := by rw [hjn]; exact q0
  have HGTW : Hid (w.heap.size < w6.heap.size) := cIn m0
  have ne0 : ¬ (w6.heap.size = w.heap.size) := Nat.ne_of_gt HGTW.out
  have HDR : Hid (Below w6.heap.size w6 w6.drew) := (Below.refl _ _).drew
  have HDZ : Hid (Below w6.heap.size w6 (w6.alloc (Obj.cells #[.int .i64 0, .string ⟨#[]⟩, .int .i64 0, .slice none 0 0] 24)).drew) := (bNew _ _).drew
  have HZN : Hid (Four_ (w6.alloc (Obj.cells #[.int .i64 0, .string ⟨#[]⟩, .int .i64 0, .slice none 0 0] 24)).drew w6.heap.size [.int .i64 0, .string ⟨#[]⟩, .int .i64 0, .slice none 0 0]) := Four_.new w6 _ _ _ rfl _ rfl
  go_upto_region 8 with fail
  clear hj hjn q0 q1 q2 i10 i11
  go_cut [9, 10] (fun p e wx => ∃ g4 A' c', p = .pointer (some ⟨g4, 0, none⟩) ∧ e = .int .i64 0 ∧ wx.cell? ⟨g4, 3, none⟩ = some (.slice A' rs.length c') ∧ Below w6.heap.size w6 wx)
  case first =>
    go_region_held3 (fun w' => w'.cell? ⟨w.heap.size, 0, none⟩ = some (.int .i64 tk) ∧ w'.cell? ⟨w.heap.size, 1, none⟩ = some (.string tx) ∧ w'.cell? ⟨w.heap.size, 2, none⟩ = some (.int .i64 tc) ∧ w'.cell? ⟨w.heap.size, 3, none⟩ = some (.slice A ts.length cap)) (go_keep) (first
      | (go_at_call 35; (with_reducible refine (HCUTB.out w6.drew).mono ?_); rintro e w1 ⟨rfl, hb1⟩; have HX1 : Hid (Below w6.heap.size w6 w1) := bDr hb1; clear hb1; obtain ⟨hm, hn, hbw⟩ := KX.out w1 HX1.out; have m0 := hm 0 _ rfl; have m1 := hm 1 _ rfl; have m2 := hm 2 _ rfl; have m3 := hm 3 _ rfl; clear hm hn hbw)
      | (go_at_call 35; (with_reducible refine (HCUTB.out _).mono ?_); rintro e w1 ⟨rfl, hb1⟩; have HX1 := hid (bCl HDZ.out hb1); have HZ1 := hid (HZN.out.keep hb1); obtain ⟨z0, z1, z2, z3, y0, y1, y2, y3⟩ := HZ1.out.facts; clear hb1; obtain ⟨hm, hn, hbw⟩ := KX.out w1 HX1.out; have m0 := hm 0 _ rfl; have m1 := hm 1 _ rfl; have m2 := hm 2 _ rfl; have m3 := hm 3 _ rfl; clear hm hn hbw)
      | (go_at_call 34; (with_reducible refine (HROWQ.out w1 _ _ (KX.out _ HX1.out).2.2 (HQ4.out _ HX1.out)).mono ?_); rintro e w2 ⟨v2, rfl, hr2, hb2⟩; obtain ⟨A2, c2, rfl⟩ := hr2.form; have HX2 := hid (bCl HX1.out hb2); have HZ2 := hid (HZ1.out.keep hb2); obtain ⟨z0, z1, z2, z3, y0, y1, y2, y3⟩ := HZ2.out.facts; clear hr2 hb2; obtain ⟨hm, hn, hbw⟩ := KX.out w2 HX2.out; have m0 := hm 0 _ rfl; have m1 := hm 1 _ rfl; have m2 := hm 2 _ rfl; have m3 := hm 3 _ rfl; clear hm hn hbw)
      | (go_at_call 34; (with_reducible refine (HROWQ.out w1 _ _ (KX.out _ HX1.out).2.2 (HQ4.out _ HX1.out)).mono ?_); rintro e w2 ⟨v2, rfl, hr2, hb2⟩; obtain ⟨A2, c2, rfl⟩ := hr2.form; have HX2 := hid (bCl HX1.out hb2); clear hr2 hb2; obtain ⟨hm, hn, hbw⟩ := KX.out w2 HX2.out; have m0 := hm 0 _ rfl; have m1 := hm 1 _ rfl; have m2 := hm 2 _ rfl; have m3 := hm 3 _ rfl; clear hm hn hbw)
      | (go_at_call 34; (with_reducible refine (HROWQ.out (w1.alloc (Obj.cells #[.int .i64 0, .string ⟨#[]⟩, .int .i64 0, .slice none 0 0] 24)) _ _ (KX.out _ (bAl HX1.out _)).2.2 (HQ4.out _ (bAl HX1.out _))).mono ?_); rintro e w2 ⟨v2, rfl, hr2, hb2⟩; obtain ⟨A2, c2, rfl⟩ := hr2.form; have HX2 := hid (bCl (bAl HX1.out _) hb2); have HZ2 := hid ((Four_.new w1 _ 24 _ rfl [.int .i64 0, .string ⟨#[]⟩, .int .i64 0, .slice none 0 0] rfl).keep hb2); have HXL := hid HX1.out.size; have ne1 : ¬ (w1.heap.size = w.heap.size) := (Nat.ne_of_gt (Nat.lt_of_lt_of_le HGTW.out HXL.out)); obtain ⟨z0, z1, z2, z3, y0, y1, y2, y3⟩ := HZ2.out.facts; clear hr2 hb2; obtain ⟨hm, hn, hbw⟩ := KX.out w2 HX2.out; have m0 := hm 0 _ rfl; have m1 := hm 1 _ rfl; have m2 := hm 2 _ rfl; have m3 := hm 3 _ rfl; clear hm hn hbw))
    all_goals
      go_wp2_with fail
      go_meet
      try dsimp only [Tree.kind, Tree.text, Tree.cols, Tree.kids]
      first
        | ((with_reducible refine ⟨_, A2, c2, rfl, rfl, ?_, bAl HX2.out _⟩); exact cNew _ _ _ _ _ rfl)
        | (with_reducible exact ⟨_, _, _, rfl, rfl, (HZ2.out.set _ _ _ _ (Nat.le_refl _) HX2.out).1, (HZ2.out.set _ _ _ _ (Nat.le_refl _) HX2.out).2⟩)
        | (with_reducible exact ⟨_, _, _, rfl, rfl, (HZ2.out.set _ _ _ _ HXL.out HX2.out).1, (HZ2.out.set _ _ _ _ HXL.out HX2.out).2⟩)
  case rest =>
    obtain ⟨g4, A5, c5, rfl, rfl, hc4, hbx⟩ := hcut
    have HBX := hid hbx
    have HC4 := hid hc4
    have HG4 := hid (cIn hc4)
    have KZ : Hid (∀ W, Below wc.heap.size wc W → MovBox W w.heap.size #[.int .i64 tk, .string tx, .int .i64 tc, .slice A ts.length cap] ∧ MovBox W w4.heap.size #[.int .i64 2, .string ⟨#[]⟩, .int .i64 0, .int .i64 1, .int .i64 1, .int .i64 1, .int .i64 0, .int .i64 0, .slice none 0 0, .int .i64 0, .slice none 0 0] ∧ W.cell? ⟨g4, 3, none⟩ = some (.slice A5 rs.length c5) ∧ Below w.heap.size w W ∧ Below w6.heap.size w6 W) := fun W hW => by
      obtain ⟨h1, h2, h3⟩ := KX.out W (bCl HBX.out hW)
      exact ⟨h1, h2, (hW.cell (p := ⟨g4, 3, none⟩) HG4.out).trans HC4.out, h3, bCl HBX.out hW⟩
    clear hbx hc4
    clear m0 m1 m2 m3 n0 n1 n2 n3 n4 n5 n6 n7 n8 n9 n10
    have i12 : (q.length : Int) ≤ 1000000 := by omega
    have i13 : (rs.length : Int) ≤ 1000000 := by omega
    go_wp2_with fail
    go_loopw [11] (fun d wr => Below wc.heap.size wc wr ∧ (d = .int .i64 2 ∨ d = .int .i64 3 ∨ d = .int .i64 4)) (fun d _ => 4 - (intOf d).toNat)
    case atStart => exact ⟨Below.refl _ _, .inl rfl⟩
    case round =>
      obtain ⟨hb, hd⟩ := hrel
      have HB := hid hb
      clear hb
      rcases hd with rfl | rfl | rfl
      · obtain ⟨hm, hn, q0, hbw, hb6⟩ := KZ.out wr HB.out
        have m0 := hm 0 _ rfl
        have m1 := hm 1 _ rfl
        have m2 := hm 2 _ rfl
        have m3 := hm 3 _ rfl
        have n0 := hn 0 _ rfl
        have n1 := hn 1 _ rfl
        have n2 := hn 2 _ rfl
        have n3 := hn 3 _ rfl
        have n4 := hn 4 _ rfl
        have n5 := hn 5 _ rfl
        have n6 := hn 6 _ rfl
        have n7 := hn 7 _ rfl
        have n8 := hn 8 _ rfl
        have n9 := hn 9 _ rfl
        have n10 := hn 10 _ rfl
        clear hm hn
        go_wp2_with fail
        refine (C2A.out _ _ _ hbw (HPJ.out _ hb6)).mono ?_
        rintro e w8 ⟨hb8, v8, rfl, hi8⟩
        obtain ⟨A8, c8, hv8⟩ := hi8.form
        rw [hlen] at hv8
        subst hv8
        have HB8 := hid (bCl HB.out hb8)
        have HI8 : Hid (IntsR w8 (Lt w8.heap.size) (q ++ [0]) (.slice A8 (q.length + 1) c8)) := hi8.keep (fun _ _ => rfl) (fun _ h => h.2)
        clear hi8 hb8
        clear m0 m1 m2 m3 n0 n1 n2 n3 n4 n5 n6 n7 n8 n9 n10 q0 hbw hb6
        obtain ⟨_, _, rs8, hq8, _, _, hrd8, hls8⟩ := HI8.out
        injection hq8 with e1 e2 e3
        subst e1 e3
        clear e2
        obtain ⟨g8, o8, rfl, hg8, _, p8⟩ := ints_at hrd8 hls8 (k := q.length) (by simp)
        rw [List.getElem_concat_length rfl] at p8
        have hc8 := ints_cap HI8.out
        obtain ⟨A9, hcall9, hcut9⟩ := row42_any (some ⟨g8, o8, none⟩) q.length c8 hc8 (by omega)
        have hq9 := hcut9 _ _ _ HI8.out
        rw [List.take_append_of_le_length (Nat.le_refl _), List.take_length] at hq9
        have HC9 : Hid (∀ W, Calls Tryz.prog 35 #[.slice (some ⟨g8, o8, none⟩) (q.length + 1) c8] W fun e w' => e = .returned (.slice A9 q.length c8) ∧ ∃ k, w' = W.drewN k) := hcall9
        have HSQ : Hid (∀ k, Calls Tryz.prog 25 #[.slice A9 q.length c8, .slice A4 q.length c3] (w8.drewN k) fun e w' => e = .returned (.bool true) ∧ ∃ n, w' = (w8.drewN k).drewN n) := fun k =>
          HSAME.out _ q _ _ _ _ (hq9.keep (fun _ _ => rfl) (fun _ h => h)) ((HQ4.out _ (KZ.out _ HB8.out).2.2.2.2).keep (fun _ _ => rfl) (fun _ h => h))
        clear hrd8 hls8 hg8 hcall9 hcut9 hq9
        obtain ⟨hm, hn, q0, hbw, hb6⟩ := KZ.out w8 HB8.out
        have m0 := hm 0 _ rfl
        have m1 := hm 1 _ rfl
        have m2 := hm 2 _ rfl
        have m3 := hm 3 _ rfl
        have n0 := hn 0 _ rfl
        have n1 := hn 1 _ rfl
        have n2 := hn 2 _ rfl
        have n3 := hn 3 _ rfl
        have n4 := hn 4 _ rfl
        have n5 := hn 5 _ rfl
        have n6 := hn 6 _ rfl
        have n7 := hn 7 _ rfl
        have n8 := hn 8 _ rfl
        have n9 := hn 9 _ rfl
        have n10 := hn 10 _ rfl
        clear hm hn
        go_wp2_with fail
        go_quiet (first | (go_at_call 35; first | exact Calls.quiet_of (HC9.out _) | exact Calls.quiet_of (HCUT.out _)) | (go_at_call 25; exact Calls.quiet_of (HSQ.out _)))
        have HBQ : Hid (Below wc.heap.size wc (w8.drewN nq)) := bDn HB8.out _
        have HIQ : Hid (IntsR (w8.drewN nq) (Lt (w8.drewN nq).heap.size) (q ++ [0]) (.slice (some ⟨g8, o8, none⟩) (q.length + 1) c8)) := HI8.out.keep (fun _ _ => rfl) (fun _ h => h)
        go_wp2_with fail
        refine (C2B.out _ _ _ (KZ.out _ HBQ.out).2.2.2.1 HIQ.out).mono ?_
        rintro e w10 ⟨hb10, v10, rfl, hi10⟩
        obtain ⟨A10, c10, hv10⟩ := hi10.form
        rw [hlen] at hv10
        subst hv10
        have HB10 := hid (bCl HBQ.out hb10)
        have HI10 : Hid (IntsR w10 (Lt w10.heap.size) (q ++ [0]) (.slice A10 (q.length + 1) c10)) := hi10.keep (fun _ _ => rfl) (fun _ h => h.2)
        have HJ10 : Hid (IntsR w10 (Lt w10.heap.size) (q ++ [0]) (.slice (some ⟨g8, o8, none⟩) (q.length + 1) c8)) := HIQ.out.below hb10 hb10.size
        have HSR : Hid (∀ W, Calls Tryz.prog 25 #[.slice (some ⟨g8, o8, none⟩) (q.length + 1) c8, .slice A10 (q.length + 1) c10] (w10.drewN W) fun e w' => e = .returned (.bool true) ∧ ∃ n, w' = (w10.drewN W).drewN n) := fun W => by
          have h := HSAME.out (w10.drewN W) (q ++ [0]) (some ⟨g8, o8, none⟩) A10 c8 c10 (by rw [hlen]; exact HJ10.out.keep (fun _ _ => rfl) (fun _ h => h)) (by rw [hlen]; exact HI10.out.keep (fun _ _ => rfl) (fun _ h => h))
          rw [hlen] at h
          exact h
        clear hi10 hb10 p8
        clear m0 m1 m2 m3 n0 n1 n2 n3 n4 n5 n6 n7 n8 n9 n10 q0 hbw hb6
        go_wp2_with fail
        refine (HSR.out 0).mono ?_
        rintro e w11 ⟨rfl, nd, rfl⟩
        have HB11 : Hid (Below wc.heap.size wc ((w10.drewN 0).drewN nd)) := bDn (bDn HB10.out _) _
        go_wp2_with fail
        go_roundw
        case rel => exact ⟨HB11.out, .inr (.inl rfl)⟩
        case measure => simp [intOf]
      · obtain ⟨hm, hn, q0, hbw, hb6⟩ := KZ.out wr HB.out
        have m0 := hm 0 _ rfl
        have m1 := hm 1 _ rfl
        have m2 := hm 2 _ rfl
        have m3 := hm 3 _ rfl
        have n0 := hn 0 _ rfl
        have n1 := hn 1 _ rfl
        have n2 := hn 2 _ rfl
        have n3 := hn 3 _ rfl
        have n4 := hn 4 _ rfl
        have n5 := hn 5 _ rfl
        have n6 := hn 6 _ rfl
        have n7 := hn 7 _ rfl
        have n8 := hn 8 _ rfl
        have n9 := hn 9 _ rfl
        have n10 := hn 10 _ rfl
        clear hm hn
        go_wp2_with fail
        refine (C3A.out _ _ _ hbw (HPJ.out _ hb6)).mono ?_
        rintro e w8 ⟨hb8, v8, rfl, hi8⟩
        obtain ⟨A8, c8, hv8⟩ := hi8.form
        rw [hlen] at hv8
        subst hv8
        have HB8 := hid (bCl HB.out hb8)
        have HI8 : Hid (IntsR w8 (Lt w8.heap.size) (q ++ [(rs.length : Int)]) (.slice A8 (q.length + 1) c8)) := hi8.keep (fun _ _ => rfl) (fun _ h => h.2)
        clear hi8 hb8
        clear m0 m1 m2 m3 n0 n1 n2 n3 n4 n5 n6 n7 n8 n9 n10 q0 hbw hb6
        obtain ⟨_, _, rs8, hq8, _, _, hrd8, hls8⟩ := HI8.out
        injection hq8 with e1 e2 e3
        subst e1 e3
        clear e2
        obtain ⟨g8, o8, rfl, hg8, _, p8⟩ := ints_at hrd8 hls8 (k := q.length) (by simp)
        rw [List.getElem_concat_length rfl] at p8
        have hc8 := ints_cap HI8.out
        obtain ⟨A9, hcall9, hcut9⟩ := row42_any (some ⟨g8, o8, none⟩) q.length c8 hc8 (by omega)
        have hq9 := hcut9 _ _ _ HI8.out
        rw [List.take_append_of_le_length (Nat.le_refl _), List.take_length] at hq9
        have HC9 : Hid (∀ W, Calls Tryz.prog 35 #[.slice (some ⟨g8, o8, none⟩) (q.length + 1) c8] W fun e w' => e = .returned (.slice A9 q.length c8) ∧ ∃ k, w' = W.drewN k) := hcall9
        have HSQ : Hid (∀ k, Calls Tryz.prog 25 #[.slice A9 q.length c8, .slice A4 q.length c3] (w8.drewN k) fun e w' => e = .returned (.bool true) ∧ ∃ n, w' = (w8.drewN k).drewN n) := fun k =>
          HSAME.out _ q _ _ _ _ (hq9.keep (fun _ _ => rfl) (fun _ h => h)) ((HQ4.out _ (KZ.out _ HB8.out).2.2.2.2).keep (fun _ _ => rfl) (fun _ h => h))
        clear hrd8 hls8 hg8 hcall9 hcut9 hq9
        obtain ⟨hm, hn, q0, hbw, hb6⟩ := KZ.out w8 HB8.out
        have m0 := hm 0 _ rfl
        have m1 := hm 1 _ rfl
        have m2 := hm 2 _ rfl
        have m3 := hm 3 _ rfl
        have n0 := hn 0 _ rfl
        have n1 := hn 1 _ rfl
        have n2 := hn 2 _ rfl
        have n3 := hn 3 _ rfl
        have n4 := hn 4 _ rfl
        have n5 := hn 5 _ rfl
        have n6 := hn 6 _ rfl
        have n7 := hn 7 _ rfl
        have n8 := hn 8 _ rfl
        have n9 := hn 9 _ rfl
        have n10 := hn 10 _ rfl
        clear hm hn
        go_wp2_with fail
        go_quiet (first | (go_at_call 35; first | exact Calls.quiet_of (HC9.out _) | exact Calls.quiet_of (HCUT.out _)) | (go_at_call 25; exact Calls.quiet_of (HSQ.out _)))
        have HBQ : Hid (Below wc.heap.size wc (w8.drewN nq)) := bDn HB8.out _
        have HIQ : Hid (IntsR (w8.drewN nq) (Lt (w8.drewN nq).heap.size) (q ++ [(rs.length : Int)]) (.slice (some ⟨g8, o8, none⟩) (q.length + 1) c8)) := HI8.out.keep (fun _ _ => rfl) (fun _ h => h)
        go_wp2_with fail
        refine (C3B.out _ _ _ (KZ.out _ HBQ.out).2.2.2.1 HIQ.out).mono ?_
        rintro e w10 ⟨hb10, v10, rfl, hi10⟩
        obtain ⟨A10, c10, hv10⟩ := hi10.form
        rw [hlen] at hv10
        subst hv10
        have HB10 := hid (bCl HBQ.out hb10)
        have HI10 : Hid (IntsR w10 (Lt w10.heap.size) (q ++ [(rs.length : Int)]) (.slice A10 (q.length + 1) c10)) := hi10.keep (fun _ _ => rfl) (fun _ h => h.2)
        have HJ10 : Hid (IntsR w10 (Lt w10.heap.size) (q ++ [(rs.length : Int)]) (.slice (some ⟨g8, o8, none⟩) (q.length + 1) c8)) := HIQ.out.below hb10 hb10.size
        have HSR : Hid (∀ W, Calls Tryz.prog 25 #[.slice (some ⟨g8, o8, none⟩) (q.length + 1) c8, .slice A10 (q.length + 1) c10] (w10.drewN W) fun e w' => e = .returned (.bool true) ∧ ∃ n, w' = (w10.drewN W).drewN n) := fun W => by
          have h := HSAME.out (w10.drewN W) (q ++ [(rs.length : Int)]) (some ⟨g8, o8, none⟩) A10 c8 c10 (by rw [hlen]; exact HJ10.out.keep (fun _ _ => rfl) (fun _ h => h)) (by rw [hlen]; exact HI10.out.keep (fun _ _ => rfl) (fun _ h => h))
          rw [hlen] at h
          exact h
        clear hi10 hb10 p8
        clear m0 m1 m2 m3 n0 n1 n2 n3 n4 n5 n6 n7 n8 n9 n10 q0 hbw hb6
        go_wp2_with fail
        refine (HSR.out 0).mono ?_
        rintro e w11 ⟨rfl, nd, rfl⟩
        have HB11 : Hid (Below wc.heap.size wc ((w10.drewN 0).drewN nd)) := bDn (bDn HB10.out _) _
        go_wp2_with fail
        go_roundw
        case rel => exact ⟨HB11.out, .inr (.inr rfl)⟩
        case measure => simp [intOf]
      · have HBW := hid (KZ.out _ HB.out).2.2.2.1
        go_wp2_with fail
        go_ret
        exact ⟨rfl, HBW.out⟩
end Go.Proofs.YtbiloghgkmknbaaGreatDoor
