/- vinculumlaw10.rows. -/
import Derived.Test.YtognlokeadlpbaaAllR
import Derived.Test.YtognlokeadlpbaaAwk10
set_option linter.unusedVariables false
set_option linter.unusedSimpArgs false
set_option maxRecDepth 100000
namespace Go.Proofs.Ytognlokeadlpbaa
open Go.RowKit

mutual
def rowsS : Tree → Nat
  | .mk k _ _ ts => (if k = 1 then ts.length + 1 else 0) + rowsSS ts
def rowsSS : List Tree → Nat
  | [] => 0
  | t :: ts => rowsS t + rowsSS ts
end
theorem rowsSS_append (xs ys : List Tree) : rowsSS (xs ++ ys) = rowsSS xs + rowsSS ys := by
  induction xs with
  | nil => simp [rowsSS]
  | cons x xs ih => simp [rowsSS, ih]; omega
theorem rowsSS_take {ts : List Tree} {k : Nat} (h : k < ts.length) : rowsSS (ts.take (k + 1)) = rowsSS (ts.take k) + rowsS ts[k] := by
  rw [List.take_succ_eq_append_getElem h, rowsSS_append]; simp [rowsSS]
theorem rowsSS_take_le (ts : List Tree) (k : Nat) : rowsSS (ts.take k) ≤ rowsSS ts := by
  conv => rhs; rw [← List.take_append_drop k ts, rowsSS_append]
  omega
mutual
theorem rowsS_le : (t : Tree) → rowsS t + 1 ≤ 2 * countS t
  | .mk k _ _ ts => by rw [rowsS, countS]; have := rowsSS_le ts; split <;> omega
theorem rowsSS_le : (ts : List Tree) → rowsSS ts + ts.length ≤ 2 * countsS ts
  | [] => by simp [rowsSS, countsS]
  | t :: ts => by rw [rowsSS, countsS, List.length_cons]; have := rowsS_le t; have := rowsSS_le ts; omega
end
/-- In a formed row the items of rows and the rows themselves are all the positions. -/
theorem rows_cnt (t : Tree) : formS t = true → t.kind = 1 → rowsS t = cntS t := by
  induction t using Tree.ind' with
  | h t ih =>
  obtain ⟨tk, tx, tc, ts⟩ := t
  intro hf hk
  simp only [Tree.kind] at hk
  subst hk
  rw [formS] at hf
  simp only [Bool.and_eq_true] at hf
  have hfs := hf.2
  simp only [Tree.kids] at ih
  rw [rowsS, cntS, if_pos rfl]
  clear hf
  have key : ∀ (us : List Tree) (k : Int), formsS k us = true → ¬ k = 1 → (∀ u ∈ us, formS u = true → u.kind = 1 → rowsS u = cntS u) → rowsSS us = slotsC us := by
    intro us k
    induction us with
    | nil => intro _ _ _; simp [rowsSS, slotsC]
    | cons u us ihu =>
      intro h1 h2 h3
      rw [formsS_cons] at h1
      simp only [Bool.and_eq_true, Bool.not_eq_true', beq_eq_false_iff_ne, ne_eq] at h1
      have hk : u.kind = 1 := by
        have := h1.1.1
        have h4 : (k == 1) = false := by simpa using h2
        rw [h4] at this
        simpa using this
      rw [rowsSS, slotsC, h3 u (List.mem_cons_self) h1.1.2 hk, ihu h1.2 h2 (fun v hv => h3 v (List.mem_cons_of_mem _ hv))]
  have main : ∀ (ts : List Tree), formsS 1 ts = true → (∀ k ∈ ts, ∀ u ∈ k.kids, formS u = true → u.kind = 1 → rowsS u = cntS u) → ts.length + 1 + rowsSS ts = itemsC ts := by
    intro ts
    induction ts with
    | nil => intro _ _; simp [rowsSS, itemsC]
    | cons u us ihu =>
      intro h1 h3
      rw [formsS_cons] at h1
      simp only [Bool.and_eq_true, Bool.not_eq_true', beq_eq_false_iff_ne, ne_eq] at h1
      obtain ⟨uk, ux, uc, vs⟩ := u
      have hk : ¬ uk = 1 := by
        have := h1.1.1
        simpa [Tree.kind] using this
      have hfu := h1.1.2
      rw [formS] at hfu
      simp only [Bool.and_eq_true] at hfu
      have e1 := key vs uk hfu.2 hk (h3 _ (List.mem_cons_self))
      have e2 := ihu h1.2 (fun k hk => h3 k (List.mem_cons_of_mem _ hk))
      rw [rowsSS, rowsS, if_neg hk, itemsC, List.length_cons]
      omega
  exact main ts hfs ih

set_option maxHeartbeats 2000000 in
theorem rows_any (t : Tree) : ∀ (w : World) (A : Option Addr) (cap : Nat) (_ : SliceR treeE w (Lt w.heap.size) t.kids (.slice A t.kids.length cap)) (_ : countS t ≤ 1000000),
    Calls Try.prog 45 #[.agg #[.int .i64 t.kind, .string t.text, .int .i64 t.cols, .slice A t.kids.length cap]] w fun e w' => e = .returned (.int .i64 (rowsS t)) ∧ Below w.heap.size w w' := by
  induction t using Tree.ind with
  | h t ih =>
  intro w A cap hv hm
  obtain ⟨tk, tx, tc, ts⟩ := t
  simp only [Tree.kind, Tree.text, Tree.cols, Tree.kids] at *
  have hb0 : Below w.heap.size w (w.alloc (.cells #[.int .i64 tk, .string tx, .int .i64 tc, .slice A ts.length cap] 24)) := below_allocR _ _
  have hls := rowsSS_le ts
  have hcs : countsS ts ≤ 1000000 := by rw [countS] at hm; omega
  have hlen : ts.length ≤ 1000000 := by have := kids_le_count (.mk tk tx tc ts); simp only [Tree.kids] at this; omega
  have HB0 := hid hb0
  have HV : Hid (∀ W, Below w.heap.size w W → SliceR treeE W (Lt W.heap.size) ts (.slice A ts.length cap)) := fun W h => hv.below h h.size
  have HIH : Hid (∀ (k : Nat) (hk : k < ts.length) W A2 c2, SliceR treeE W (Lt W.heap.size) ts[k].kids (.slice A2 ts[k].kids.length c2) → Calls Try.prog 45 #[.agg #[.int .i64 ts[k].kind, .string ts[k].text, .int .i64 ts[k].cols, .slice A2 ts[k].kids.length c2]] W fun e w' => e = .returned (.int .i64 (rowsS ts[k])) ∧ Below W.heap.size W w') := fun k hk W A2 c2 h => by
    refine ih _ (List.getElem_mem hk) W A2 c2 h ?_
    have := countS_kid (t := .mk tk tx tc ts) hk
    simp only [Tree.kids] at this
    omega
  obtain ⟨r0, hr0, hr0b⟩ : ∃ r0 : Nat, r0 = (if tk = 1 then ts.length + 1 else 0) ∧ r0 ≤ 1000001 := ⟨_, rfl, by split <;> omega⟩
  have HR : Hid (rowsS (.mk tk tx tc ts) = r0 + rowsSS ts) := by show _ = _; rw [rowsS, hr0]
  rw [HR.out]
  have HRS : Hid (rowsSS ts ≤ 2000000) := by show _ ≤ _; omega
  clear hv hb0 ih hls hcs hm HR
  by_cases hk1 : tk = 1
  all_goals
    first
      | (have hd : (tk == 1) = true := by simpa using hk1
         rw [if_pos hk1] at hr0)
      | (have hd : (tk == 1) = false := by simpa using hk1
         rw [if_neg hk1] at hr0)
    have HR0 := hid hr0
    clear hk1 hr0
    go_enter Try.func45, Try.ntmps45
    go_wp2_with fail
    generalize hW0 : w.alloc (.cells #[.int .i64 tk, .string tx, .int .i64 tc, .slice A ts.length cap] 24) = W0 at *
    clear hW0
    go_loopw [3, 16] (fun o i wr => Below w.heap.size w wr ∧ ∃ k : Nat, k ≤ ts.length ∧ i = .int .i64 k ∧ o = .int .i64 ((r0 + rowsSS (ts.take k) : Nat) : Int)) (fun _ i _ => ts.length - (intOf i).toNat)
    case atStart => exact ⟨HB0.out, 0, Nat.zero_le _, rfl, by rw [HR0.out]; simp [rowsSS]⟩
    case round =>
      obtain ⟨hbr, k, hk, rfl, rfl⟩ := hrel
      have HBR := hid hbr
      rcases Nat.lt_or_ge k ts.length with hlt | hge
      · obtain ⟨g, o, A1, c1, rfl, hg, ⟨e0, e1, e2, e3⟩, _, _, hkids⟩ := kids_at (HV.out wr hbr) hlt
        have hba : Below wr.heap.size wr (wr.alloc (.cells #[.int .i64 ts[k].kind, .string ts[k].text, .int .i64 ts[k].cols, .slice A1 ts[k].kids.length c1] 24)) := below_allocR _ _
        have HC := hid (HIH.out k hlt (wr.alloc (.cells #[.int .i64 ts[k].kind, .string ts[k].text, .int .i64 ts[k].cols, .slice A1 ts[k].kids.length c1] 24)) A1 c1 (hkids.below hba hba.size))
        have HBA := hid (bl_call hbr hba)
        have HT : Hid (r0 + rowsSS (ts.take (k + 1)) = r0 + rowsSS (ts.take k) + rowsS ts[k]) := by show _ = _; rw [rowsSS_take hlt]; omega
        have h1 := rowsSS_take_le ts (k + 1)
        have h2 := HRS.out
        have h3 := HT.out
        have i1 : (k : Int) < (ts.length : Int) := by omega
        have i0 : (0 : Int) ≤ (k : Int) := by omega
        have hs1 : ((r0 + rowsSS (ts.take k) : Nat) : Int) ≤ 4000000 := by omega
        have hs2 : ((rowsS ts[k] : Nat) : Int) ≤ 4000000 := by omega
        have hs3 : (0 : Int) ≤ ((r0 + rowsSS (ts.take k) : Nat) : Int) := by omega
        have hs4 : (0 : Int) ≤ ((rowsS ts[k] : Nat) : Int) := by omega
        have HF : Hid (((r0 + rowsSS (ts.take k) : Nat) : Int) + ((rowsS ts[k] : Nat) : Int) = ((r0 + rowsSS (ts.take (k + 1)) : Nat) : Int)) := by show _ = _; rw [h3]; omega
        clear h1 h2 h3 HT hkids hbr hba
        generalize ((r0 + rowsSS (ts.take k) : Nat) : Int) = s at *
        generalize ((rowsS ts[k] : Nat) : Int) = a at *
        go_wp2_with fail
        refine HC.out.mono ?_
        rintro e w1 ⟨rfl, hb1⟩
        have HB1 := hid (bl_call HBA.out hb1)
        clear hb1
        go_wp2_with fail
        go_roundw
        case rel => exact ⟨HB1.out, k + 1, by omega, by go_num, by rw [← HF.out]⟩
        case measure => simp [intOf]; omega
      · have hke : ts.take k = ts := List.take_of_length_le hge
        rw [hke]
        clear hke hbr
        go_wp2_with fail
        go_ret
        exact ⟨rfl, HBR.out⟩
end Go.Proofs.Ytognlokeadlpbaa
