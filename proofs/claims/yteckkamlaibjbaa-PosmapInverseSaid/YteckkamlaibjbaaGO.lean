/- Texts put together: Law13, Few13. -/
import Derived.Test.YteckkamlaibjbaaConcat
import Derived.Test.YteckkamlaibjbaaRef09
import Derived.Test.YteckkamlaibjbaaRef13O
/- The law's own small functions: near, ref12.Few, few. -/
set_option linter.unusedVariables false
set_option linter.unusedSimpArgs false
namespace Go.Proofs.Yteckkamlaibjbaa
open Go.RowKit

def nearS (xs : List Int) : Bool := xs.all fun x => decide (-1099511627776 ≤ x ∧ x ≤ 1099511627776)
theorem nearS_drop_cons {xs : List Int} {k : Nat} (h : k < xs.length) : nearS (xs.drop k) = (decide (-1099511627776 ≤ xs[k] ∧ xs[k] ≤ 1099511627776) && nearS (xs.drop (k + 1))) := by
  rw [List.drop_eq_getElem_cons h]; rfl
theorem nearS_bd {xs : List Int} (h : nearS xs = true) : ∀ x ∈ xs, Bd 1099511627776 x := by
  intro x hx
  have := List.all_eq_true.1 h x hx
  simpa [Bd] using this

set_option maxHeartbeats 1000000 in
theorem near_q (xs : List Int) (w : World) (v : Value) (S : Nat → Prop) (hv : IntsR w S xs v) :
    Calls Try.prog 30 #[v] w fun e w' => e = .returned (.bool (nearS xs)) ∧ w = w' := by
  obtain ⟨A, cap, rs, rfl, hcap, hmax, hrd, hls⟩ := hv
  unfold maxLen at hmax
  have hl : xs.length ≤ 9223372036854775807 := by omega
  have H : Hid (Reads w S A rs ∧ ListR intE w S xs rs) := ⟨hrd, hls⟩
  clear hrd hls
  go_enter Try.func30, Try.ntmps30
  go_wp2
  go_loop [7] (fun i => ∃ k : Nat, k ≤ xs.length ∧ i = .int .i64 k ∧ nearS (xs.drop k) = nearS xs) (fun i => xs.length - (intOf i).toNat)
  case atStart => exact ⟨0, Nat.zero_le _, rfl, rfl⟩
  case round =>
    obtain ⟨k, hk, rfl, hrest⟩ := hrel
    have HR := hid hrest
    clear hrest
    by_cases hlt : k < xs.length
    · obtain ⟨g, o, rfl, hg, hi, c0⟩ := ints_at H.out.1 H.out.2 hlt
      have HN := hid (nearS_drop_cons hlt)
      by_cases h1 : xs[k] ≤ 1099511627776
      · by_cases h2 : -1099511627776 ≤ xs[k]
        · have d1 : decide (1099511627776 < xs[k]) = false := by simp; omega
          have d2 : decide (xs[k] < -1099511627776) = false := by simp; omega
          have HF : Hid (nearS (xs.drop (k + 1)) = nearS xs) := by show _ = _; rw [← HR.out, HN.out]; simp [h1, h2]
          go_wp2
          go_round
          case rel => exact ⟨k + 1, by omega, by go_num, HF.out⟩
          case measure => simp [intOf]; omega
        · have d1 : decide (1099511627776 < xs[k]) = false := by simp; omega
          have d2 : decide (xs[k] < -1099511627776) = true := by simp; omega
          have HF : Hid (nearS xs = false) := by show _ = _; rw [← HR.out, HN.out]; simp [h2]
          go_wp2
          go_ret
          exact ⟨by rw [HF.out]; rfl, rfl⟩
      · have d1 : decide (1099511627776 < xs[k]) = true := by simp; omega
        have HF : Hid (nearS xs = false) := by show _ = _; rw [← HR.out, HN.out]; simp [h1]
        go_wp2
        go_ret
        exact ⟨by rw [HF.out]; rfl, rfl⟩
    · have HF : Hid (nearS xs = true) := by show _ = _; rw [← HR.out, List.drop_of_length_le (by omega)]; rfl
      go_wp2
      go_ret
      exact ⟨by rw [HF.out]; rfl, rfl⟩

theorem toRow_any (w : World) (A : Option Addr) (n c : Nat) : Calls Try.prog 48 #[.slice A n c] w fun e w' => e = .returned (.agg #[.int .i64 1, .string ⟨#[]⟩, .int .i64 0, .slice A n c]) ∧ Below w.heap.size w w' := by
  go_enter Try.func48, Try.ntmps48
  go_wp2
  refine bodyPost_ret (v := .agg #[.int .i64 1, .string ⟨#[]⟩, .int .i64 0, .slice A n c]) (by simp [results, Try.results48, go_sem]) rfl ⟨rfl, below_alloc _ _⟩

def opFewS (op : OpD) : Bool := fewS (.mk 1 ⟨#[]⟩ 0 op.nodes) 100 && decide (op.row.length ≤ 60)

set_option maxHeartbeats 1000000 in
theorem opFew_any (op : OpD) (Ar An : Option Addr) (cr cn : Nat) (w : World) (hr : IntsR w (Lt w.heap.size) op.row (.slice Ar op.row.length cr)) (hn : TreesS w (Lt w.heap.size) op.nodes (.slice An op.nodes.length cn)) :
    Calls Try.prog 29 #[.agg (opC op (.slice Ar op.row.length cr) (.slice An op.nodes.length cn))] w fun e w' => e = .returned (.bool (opFewS op)) ∧ Below w.heap.size w w' := by
  have hrl := hr.lens
  obtain ⟨o1, ho1⟩ : ∃ o, o = Obj.cells (opC op (.slice Ar op.row.length cr) (.slice An op.nodes.length cn)) 27 := ⟨_, rfl⟩
  have HB : Hid (Below w.heap.size w (w.alloc o1)) := below_alloc _ _
  rw [ho1] at HB
  have HN : Hid (∀ W, Below w.heap.size w W → Calls Try.prog 11 #[.agg #[.int .i64 1, .string ⟨#[]⟩, .int .i64 0, .slice An op.nodes.length cn], .int .i64 100] W fun e w' => e = .returned (.bool (fewS (.mk 1 ⟨#[]⟩ 0 op.nodes) 100)) ∧ Below W.heap.size W w') :=
    fun W hW => few_any (.mk 1 ⟨#[]⟩ 0 op.nodes) W _ 100 (hn.below hW hW.size) (by omega) (by omega)
  have HF : Hid (opFewS op = (fewS (.mk 1 ⟨#[]⟩ 0 op.nodes) 100 && decide (op.row.length ≤ 60))) := rfl
  clear hr hn ho1
  generalize hfs : fewS (.mk 1 ⟨#[]⟩ 0 op.nodes) 100 = fs at *
  obtain ⟨kind, row, at_, n, nodes, slot, old, text⟩ := op
  simp only [opC] at *
  clear hfs
  unfold maxLen at hrl
  have q1 : (w.alloc (Obj.cells #[.int .i64 kind, .slice Ar row.length cr, .int .i64 at_, .int .i64 n, .slice An nodes.length cn, .int .i64 slot, .string old, .string text] 27)).cell? ⟨w.heap.size, 1, none⟩ = some (.slice Ar row.length cr) := by rw [World.cell?_alloc_new]; rfl
  cases fs
  all_goals
    go_enter Try.func29, Try.ntmps29
    go_wp2_with fail
    refine (toRow_any _ _ _ _).mono ?_
    rintro e w1 ⟨rfl, hb1⟩
    have q2 : w1.cell? ⟨w.heap.size, 1, none⟩ = some (.slice Ar row.length cr) := ((bcell hb1).1 w.heap.size 1 (by simp)).trans (by rw [World.cell?_alloc_new]; rfl)
    have z1 : w.heap.size < w1.heap.size := by have := hb1.size; simp at this; omega
    have HB1 : Hid (Below w.heap.size w w1) := HB.out.trans (hb1.mono HB.out.size)
    clear hb1
    go_wp2_with fail
    refine (HN.out _ HB1.out).mono ?_
    rintro e w2 ⟨rfl, hb2⟩
    have q3 : w2.cell? ⟨w.heap.size, 1, none⟩ = some (.slice Ar row.length cr) := ((bcell hb2).1 w.heap.size 1 z1).trans q2
    have HB2 : Hid (Below w.heap.size w w2) := HB1.out.trans (hb2.mono HB1.out.size)
    clear hb2 q2
    go_wp2_with fail
  · go_ret
    exact ⟨by rw [HF.out]; rfl, HB2.out⟩
  · go_ret
    exact ⟨by rw [HF.out]; simp; omega, HB2.out⟩
end Go.Proofs.Yteckkamlaibjbaa
/- vinculumlaw13.few. -/
set_option linter.unusedVariables false
set_option linter.unusedSimpArgs false
namespace Go.Proofs.Yteckkamlaibjbaa
open Go.RowKit

/-- What few asks of one operation. -/
def opSmall (pos : List Int) (op : OpD) : Bool := opFewS op && nearS [op.at_, op.n, op.slot] && nearS op.row && nearS pos
def few13S (t : Tree) (pos : List Int) (ops : List OpD) : Bool := ops.all (opSmall pos) && (fewS t 300 && decide (ops.length ≤ 12) && decide (pos.length ≤ 60))

theorem ops_at {w : World} {S : Nat → Prop} {ops : List OpD} {A : Option Addr} {cs : List Value} (h3 : Reads w S A cs) (h4 : ListR opE w S ops cs) {k : Nat} (hk : k < ops.length) :
    ∃ g o Ar An cr cn, A = some ⟨g, o, none⟩ ∧ S g ∧
      w.cell? ⟨g, o + k * 8, none⟩ = some (.int .i64 ops[k].kind) ∧ w.cell? ⟨g, o + k * 8 + 1, none⟩ = some (.slice Ar ops[k].row.length cr) ∧ w.cell? ⟨g, o + k * 8 + 2, none⟩ = some (.int .i64 ops[k].at_) ∧
      w.cell? ⟨g, o + k * 8 + 3, none⟩ = some (.int .i64 ops[k].n) ∧ w.cell? ⟨g, o + k * 8 + 4, none⟩ = some (.slice An ops[k].nodes.length cn) ∧ w.cell? ⟨g, o + k * 8 + 5, none⟩ = some (.int .i64 ops[k].slot) ∧
      w.cell? ⟨g, o + k * 8 + 6, none⟩ = some (.string ops[k].old) ∧ w.cell? ⟨g, o + k * 8 + 7, none⟩ = some (.string ops[k].text) ∧
      IntsR w S ops[k].row (.slice Ar ops[k].row.length cr) ∧ TreesS w S ops[k].nodes (.slice An ops[k].nodes.length cn) ∧ In64 ops[k].at_ ∧ In64 ops[k].n ∧ In64 ops[k].slot := by
  obtain ⟨g, o, c, e, hb, ⟨vr, vn, rfl, h1, h2, h3', h4', h5, h6, h7, h8⟩, hc⟩ := slice_at h3 h4 hk
  obtain ⟨Ar, cr, rfl⟩ := h7.form
  obtain ⟨An, cn, rfl⟩ := h8.form
  exact ⟨g, o, Ar, An, cr, cn, e, hb, by simpa [opE] using hc 0 _ rfl, by simpa [opE] using hc 1 _ rfl, by simpa [opE] using hc 2 _ rfl, by simpa [opE] using hc 3 _ rfl, by simpa [opE] using hc 4 _ rfl,
    by simpa [opE] using hc 5 _ rfl, by simpa [opE] using hc 6 _ rfl, by simpa [opE] using hc 7 _ rfl, h7, h8, h2, h3', h4'⟩

theorem all_drop_cons {α : Type} {p : α → Bool} {xs : List α} {k : Nat} (h : k < xs.length) : (xs.drop k).all p = (p xs[k] && (xs.drop (k + 1)).all p) := by
  rw [List.drop_eq_getElem_cons h]; rfl

set_option maxHeartbeats 1500000 in
theorem few13_any (t : Tree) (pos : List Int) (ops : List OpD) (At Ap Ao : Option Addr) (ct cp co : Nat) (w : World) (ht : TreesS w (Lt w.heap.size) t.kids (.slice At t.kids.length ct)) (hp : IntsR w (Lt w.heap.size) pos (.slice Ap pos.length cp))
    (ho : SliceR opE w (Lt w.heap.size) ops (.slice Ao ops.length co)) :
    Calls Try.prog 10 #[.agg #[.int .i64 t.kind, .string t.text, .int .i64 t.cols, .slice At t.kids.length ct], .slice Ap pos.length cp, .slice Ao ops.length co] w fun e w' => e = .returned (.bool (few13S t pos ops)) ∧ Below w.heap.size w w' := by
  have hpl := hp.lens
  have hol := ho.lens
  unfold maxLen at hpl hol
  have HT : Hid (∀ W, Below w.heap.size w W → Calls Try.prog 11 #[.agg #[.int .i64 t.kind, .string t.text, .int .i64 t.cols, .slice At t.kids.length ct], .int .i64 300] W fun e w' => e = .returned (.bool (fewS t 300)) ∧ Below W.heap.size W w') :=
    fun W hW => few_any t W _ 300 (ht.below hW hW.size) (by omega) (by omega)
  have HP : Hid (∀ W, Below w.heap.size w W → Calls Try.prog 30 #[.slice Ap pos.length cp] W fun e w' => e = .returned (.bool (nearS pos)) ∧ W = w') :=
    fun W hW => near_q pos W _ _ (hp.below hW hW.size)
  have HF : Hid (few13S t pos ops = (ops.all (opSmall pos) && (fewS t 300 && decide (ops.length ≤ 12) && decide (pos.length ≤ 60)))) := rfl
  obtain ⟨A, cap, rs, e, hc1, hc2, hrd, hls⟩ := ho
  injection e with e1 e2 e3
  subst e1 e3
  have H : Hid (Reads w (Lt w.heap.size) Ao rs ∧ ListR opE w (Lt w.heap.size) ops rs) := ⟨hrd, hls⟩
  clear hrd hls e2 hc1 hc2 hp ht
  generalize hft : fewS t 300 = ft at *
  obtain ⟨tk, tx, tc, ts⟩ := t
  simp only [Tree.kind, Tree.text, Tree.cols, Tree.kids] at *
  clear hft
  go_enter Try.func10, Try.ntmps10
  go_wp2_with fail
  go_loopw [11] (fun i wr => Below w.heap.size w wr ∧ (∀ j u, (#[Value.int .i64 tk, .string tx, .int .i64 tc, .slice At ts.length ct])[j]? = some u → wr.cell? ⟨w.heap.size, j, none⟩ = some u) ∧ w.heap.size < wr.heap.size ∧ ∃ k : Nat, k ≤ ops.length ∧ i = .int .i64 k ∧ (ops.drop k).all (opSmall pos) = ops.all (opSmall pos)) (fun i _ => ops.length - (intOf i).toNat)
  case atStart => exact ⟨below_alloc _ _, fun j u hu => by rw [World.cell?_alloc_new]; exact hu, by simp, 0, Nat.zero_le _, rfl, rfl⟩
  case round =>
    obtain ⟨hb, hbox, hz, k, hk, rfl, hrest⟩ := hrel
    have HR := hid hrest
    have HX := hid hbox
    clear hrest hbox
    by_cases hlt : k < ops.length
    · obtain ⟨g, o, Ar, An, cr, cn, rfl, hg, c0, c1, c2, c3, c4, c5, c6, c7, hrow, hnod, ia, inn, isl⟩ := ops_at (H.out.1.keep (Same.of_below hb (Nat.le_refl _)) (Lt.mono hb.size)) (H.out.2.keep (Same.of_below hb (Nat.le_refl _)) (Lt.mono hb.size)) hlt
      have HN := hid (all_drop_cons (p := opSmall pos) hlt)
      have HM := hid hlt
      have HOK := hid (And.intro ia (And.intro inn isl))
      have C1 : Hid (∀ W, Below wr.heap.size wr W → Calls Try.prog 29 #[.agg (opC ops[k] (.slice Ar ops[k].row.length cr) (.slice An ops[k].nodes.length cn))] W fun e w' => e = .returned (.bool (opFewS ops[k])) ∧ Below W.heap.size W w') :=
        fun W hW => opFew_any ops[k] Ar An cr cn W (hrow.below hW hW.size) (hnod.below hW hW.size)
      have C2 : Hid (∀ (W : World) (g : Nat), g = W.heap.size → Calls Try.prog 30 #[.slice (some ⟨g, 0, none⟩) 3 3] (W.alloc (.cells #[.int .i64 ops[k].at_, .int .i64 ops[k].n, .int .i64 ops[k].slot] 3)) fun e w' => e = .returned (.bool (nearS [ops[k].at_, ops[k].n, ops[k].slot])) ∧ (W.alloc (.cells #[.int .i64 ops[k].at_, .int .i64 ops[k].n, .int .i64 ops[k].slot] 3)) = w') :=
        fun W g hg => near_q [ops[k].at_, ops[k].n, ops[k].slot] _ _ (Lt (W.heap.size + 1)) (ints_lit W [ops[k].at_, ops[k].n, ops[k].slot] (by intro x hx; simp only [List.mem_cons, List.not_mem_nil, or_false] at hx; rcases hx with rfl | rfl | rfl <;> assumption) (by unfold Lt; omega) _ 3 rfl rfl (by simp [maxLen]) _ g hg)
      have C3 : Hid (∀ W, Below wr.heap.size wr W → Calls Try.prog 30 #[.slice Ar ops[k].row.length cr] W fun e w' => e = .returned (.bool (nearS ops[k].row)) ∧ W = w') :=
        fun W hW => near_q ops[k].row W _ _ (hrow.below hW hW.size)
      have HS : Hid (opSmall pos ops[k] = (opFewS ops[k] && nearS [ops[k].at_, ops[k].n, ops[k].slot] && nearS ops[k].row && nearS pos)) := rfl
      have HB := hid hb
      clear hrow hnod ia inn isl hb
      generalize opFewS ops[k] = b1 at *
      generalize nearS [ops[k].at_, ops[k].n, ops[k].slot] = b2 at *
      generalize nearS ops[k].row = b3 at *
      generalize hos : opSmall pos ops[k] = bs at *
      generalize nearS pos = b4 at *
      generalize hopk : ops[k] = op at *
      obtain ⟨kind, row, at_, n, nodes, slot, old, text⟩ := op
      simp only [opC] at c0 c1 c2 c3 c4 c5 c6 c7 C1 C2 C3
      clear hos hopk
      have hcase : b1 = false ∨ (b1 = true ∧ b2 = false) ∨ (b1 = true ∧ b2 = true ∧ b3 = false) ∨ (b1 = true ∧ b2 = true ∧ b3 = true ∧ b4 = false) ∨ (b1 = true ∧ b2 = true ∧ b3 = true ∧ b4 = true) := by
        cases b1 <;> cases b2 <;> cases b3 <;> cases b4 <;> simp
      rcases hcase with rfl | ⟨rfl, rfl⟩ | ⟨rfl, rfl, rfl⟩ | ⟨rfl, rfl, rfl, rfl⟩ | ⟨rfl, rfl, rfl, rfl⟩
      · go_wp2_with fail
        refine (C1.out _ (below_alloc _ _)).mono ?_
        rintro e w1 ⟨rfl, hb1⟩
        have HW1 : Hid (Below w.heap.size w w1) := HB.out.trans (((below_alloc _ _).trans (hb1.mono (by simp))).mono HB.out.size)
        have HV1 : Hid (Below wr.heap.size wr w1) := (below_alloc _ _).trans (hb1.mono (by simp))
        clear hb1
        go_wp2_with fail
        go_ret
        exact ⟨by rw [HF.out, ← HR.out, HN.out, HS.out]; rfl, HW1.out⟩
      · go_wp2_with fail
        refine (C1.out _ (below_alloc _ _)).mono ?_
        rintro e w1 ⟨rfl, hb1⟩
        have HW1 : Hid (Below w.heap.size w w1) := HB.out.trans (((below_alloc _ _).trans (hb1.mono (by simp))).mono HB.out.size)
        have HV1 : Hid (Below wr.heap.size wr w1) := (below_alloc _ _).trans (hb1.mono (by simp))
        have m1 : w1.cell? ⟨wr.heap.size, 1, none⟩ = some (.slice Ar row.length cr) := ((bcell hb1).1 wr.heap.size 1 (by simp)).trans (by rw [World.cell?_alloc_new]; rfl)
        have m2 : w1.cell? ⟨wr.heap.size, 2, none⟩ = some (.int .i64 at_) := ((bcell hb1).1 wr.heap.size 2 (by simp)).trans (by rw [World.cell?_alloc_new]; rfl)
        have m3 : w1.cell? ⟨wr.heap.size, 3, none⟩ = some (.int .i64 n) := ((bcell hb1).1 wr.heap.size 3 (by simp)).trans (by rw [World.cell?_alloc_new]; rfl)
        have m5 : w1.cell? ⟨wr.heap.size, 5, none⟩ = some (.int .i64 slot) := ((bcell hb1).1 wr.heap.size 5 (by simp)).trans (by rw [World.cell?_alloc_new]; rfl)
        have z1 : wr.heap.size < w1.heap.size := by have := hb1.size; simp at this; omega
        clear hb1
        go_wp2_with fail
        refine (C2.out _ _ rfl).mono ?_
        rintro e w2 ⟨rfl, rfl⟩
        go_wp2_with fail
        go_ret
        exact ⟨by rw [HF.out, ← HR.out, HN.out, HS.out]; rfl, HW1.out.trans ((below_alloc _ _).mono HW1.out.size)⟩
      · go_wp2_with fail
        refine (C1.out _ (below_alloc _ _)).mono ?_
        rintro e w1 ⟨rfl, hb1⟩
        have HW1 : Hid (Below w.heap.size w w1) := HB.out.trans (((below_alloc _ _).trans (hb1.mono (by simp))).mono HB.out.size)
        have HV1 : Hid (Below wr.heap.size wr w1) := (below_alloc _ _).trans (hb1.mono (by simp))
        have m1 : w1.cell? ⟨wr.heap.size, 1, none⟩ = some (.slice Ar row.length cr) := ((bcell hb1).1 wr.heap.size 1 (by simp)).trans (by rw [World.cell?_alloc_new]; rfl)
        have m2 : w1.cell? ⟨wr.heap.size, 2, none⟩ = some (.int .i64 at_) := ((bcell hb1).1 wr.heap.size 2 (by simp)).trans (by rw [World.cell?_alloc_new]; rfl)
        have m3 : w1.cell? ⟨wr.heap.size, 3, none⟩ = some (.int .i64 n) := ((bcell hb1).1 wr.heap.size 3 (by simp)).trans (by rw [World.cell?_alloc_new]; rfl)
        have m5 : w1.cell? ⟨wr.heap.size, 5, none⟩ = some (.int .i64 slot) := ((bcell hb1).1 wr.heap.size 5 (by simp)).trans (by rw [World.cell?_alloc_new]; rfl)
        have z1 : wr.heap.size < w1.heap.size := by have := hb1.size; simp at this; omega
        clear hb1
        go_wp2_with fail
        refine (C2.out _ _ rfl).mono ?_
        rintro e w2 ⟨rfl, rfl⟩
        go_wp2_with fail
        refine (C3.out _ (HV1.out.trans ((below_alloc _ _).mono HV1.out.size))).mono ?_
        rintro e w2 ⟨rfl, rfl⟩
        go_wp2_with fail
        go_ret
        exact ⟨by rw [HF.out, ← HR.out, HN.out, HS.out]; rfl, HW1.out.trans ((below_alloc _ _).mono HW1.out.size)⟩
      · go_wp2_with fail
        refine (C1.out _ (below_alloc _ _)).mono ?_
        rintro e w1 ⟨rfl, hb1⟩
        have HW1 : Hid (Below w.heap.size w w1) := HB.out.trans (((below_alloc _ _).trans (hb1.mono (by simp))).mono HB.out.size)
        have HV1 : Hid (Below wr.heap.size wr w1) := (below_alloc _ _).trans (hb1.mono (by simp))
        have m1 : w1.cell? ⟨wr.heap.size, 1, none⟩ = some (.slice Ar row.length cr) := ((bcell hb1).1 wr.heap.size 1 (by simp)).trans (by rw [World.cell?_alloc_new]; rfl)
        have m2 : w1.cell? ⟨wr.heap.size, 2, none⟩ = some (.int .i64 at_) := ((bcell hb1).1 wr.heap.size 2 (by simp)).trans (by rw [World.cell?_alloc_new]; rfl)
        have m3 : w1.cell? ⟨wr.heap.size, 3, none⟩ = some (.int .i64 n) := ((bcell hb1).1 wr.heap.size 3 (by simp)).trans (by rw [World.cell?_alloc_new]; rfl)
        have m5 : w1.cell? ⟨wr.heap.size, 5, none⟩ = some (.int .i64 slot) := ((bcell hb1).1 wr.heap.size 5 (by simp)).trans (by rw [World.cell?_alloc_new]; rfl)
        have z1 : wr.heap.size < w1.heap.size := by have := hb1.size; simp at this; omega
        clear hb1
        go_wp2_with fail
        refine (C2.out _ _ rfl).mono ?_
        rintro e w2 ⟨rfl, rfl⟩
        go_wp2_with fail
        refine (C3.out _ (HV1.out.trans ((below_alloc _ _).mono HV1.out.size))).mono ?_
        rintro e w2 ⟨rfl, rfl⟩
        go_wp2_with fail
        refine (HP.out _ (HW1.out.trans ((below_alloc _ _).mono HW1.out.size))).mono ?_
        rintro e w2 ⟨rfl, rfl⟩
        go_wp2_with fail
        go_ret
        exact ⟨by rw [HF.out, ← HR.out, HN.out, HS.out]; rfl, HW1.out.trans ((below_alloc _ _).mono HW1.out.size)⟩
      · go_wp2_with fail
        refine (C1.out _ (below_alloc _ _)).mono ?_
        rintro e w1 ⟨rfl, hb1⟩
        have HW1 : Hid (Below w.heap.size w w1) := HB.out.trans (((below_alloc _ _).trans (hb1.mono (by simp))).mono HB.out.size)
        have HV1 : Hid (Below wr.heap.size wr w1) := (below_alloc _ _).trans (hb1.mono (by simp))
        have m1 : w1.cell? ⟨wr.heap.size, 1, none⟩ = some (.slice Ar row.length cr) := ((bcell hb1).1 wr.heap.size 1 (by simp)).trans (by rw [World.cell?_alloc_new]; rfl)
        have m2 : w1.cell? ⟨wr.heap.size, 2, none⟩ = some (.int .i64 at_) := ((bcell hb1).1 wr.heap.size 2 (by simp)).trans (by rw [World.cell?_alloc_new]; rfl)
        have m3 : w1.cell? ⟨wr.heap.size, 3, none⟩ = some (.int .i64 n) := ((bcell hb1).1 wr.heap.size 3 (by simp)).trans (by rw [World.cell?_alloc_new]; rfl)
        have m5 : w1.cell? ⟨wr.heap.size, 5, none⟩ = some (.int .i64 slot) := ((bcell hb1).1 wr.heap.size 5 (by simp)).trans (by rw [World.cell?_alloc_new]; rfl)
        have z1 : wr.heap.size < w1.heap.size := by have := hb1.size; simp at this; omega
        clear hb1
        go_wp2_with fail
        refine (C2.out _ _ rfl).mono ?_
        rintro e w2 ⟨rfl, rfl⟩
        go_wp2_with fail
        refine (C3.out _ (HV1.out.trans ((below_alloc _ _).mono HV1.out.size))).mono ?_
        rintro e w2 ⟨rfl, rfl⟩
        go_wp2_with fail
        refine (HP.out _ (HW1.out.trans ((below_alloc _ _).mono HW1.out.size))).mono ?_
        rintro e w2 ⟨rfl, rfl⟩
        go_wp2_with fail
        go_roundw
        case rel => exact ⟨HW1.out.trans ((below_alloc _ _).mono HW1.out.size), fun j u hu => ((bcell ((HV1.out.trans ((below_alloc _ _).mono HV1.out.size)))).1 _ _ hz).trans (HX.out j u hu), by simp; omega, k + 1, by omega, by go_num, by rw [← HR.out, HN.out, HS.out]; rfl⟩
        case measure => simp [intOf]; omega
    · have HF2 : Hid (few13S ⟨tk, tx, tc, ts⟩ pos ops = (ft && decide (ops.length ≤ 12) && decide (pos.length ≤ 60))) := by
        show _ = _; rw [HF.out, ← HR.out, List.drop_of_length_le (by omega)]; rfl
      have HB := hid hb
      have m0 := HX.out 0 _ rfl
      have m1 := HX.out 1 _ rfl
      have m2 := HX.out 2 _ rfl
      have m3 := HX.out 3 _ rfl
      clear hb
      cases ft with
      | false =>
        go_wp2_with fail
        refine (HT.out _ HB.out).mono ?_
        rintro e w1 ⟨rfl, hb1⟩
        have HB1 : Hid (Below w.heap.size w w1) := HB.out.trans (hb1.mono HB.out.size)
        clear hb1
        go_wp2_with fail
        go_ret
        exact ⟨by rw [HF2.out]; rfl, HB1.out⟩
      | true =>
        by_cases hl12 : ops.length ≤ 12
        · go_wp2_with fail
          refine (HT.out _ HB.out).mono ?_
          rintro e w1 ⟨rfl, hb1⟩
          have HB1 : Hid (Below w.heap.size w w1) := HB.out.trans (hb1.mono HB.out.size)
          clear hb1
          go_wp2_with fail
          go_ret
          exact ⟨by rw [HF2.out]; simp [hl12]; try omega, HB1.out⟩
        · go_wp2_with fail
          refine (HT.out _ HB.out).mono ?_
          rintro e w1 ⟨rfl, hb1⟩
          have HB1 : Hid (Below w.heap.size w w1) := HB.out.trans (hb1.mono HB.out.size)
          clear hb1
          go_wp2_with fail
          go_ret
          exact ⟨by rw [HF2.out]; simp [hl12], HB1.out⟩
end Go.Proofs.Yteckkamlaibjbaa
