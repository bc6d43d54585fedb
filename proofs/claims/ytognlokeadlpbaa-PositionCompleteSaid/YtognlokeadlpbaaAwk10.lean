/- vinculumlaw10.awake, few; position.First, Last. -/
import Derived.Test.YtognlokeadlpbaaPos2
import Derived.Test.YtognlokeadlpbaaAwk11
import Derived.Test.YtognlokeadlpbaaSel6
set_option linter.unusedVariables false
set_option linter.unusedSimpArgs false
set_option maxRecDepth 100000
namespace Go.Proofs.Ytognlokeadlpbaa
open Go.RowKit

def awT10 : Tree := rowT' [symT ⟨#[120]⟩, .mk 5 ⟨#[]⟩ 0 [rowT' [], rowT' []]]
theorem awT10_form : formS awT10 = true := by
  simp only [awT10, rowT', symT, formS, formsS, tx0 1 (.inl rfl), tx0 5 (.inr rfl), txx, List.length_cons, List.length_nil]
  decide +kernel
theorem awT10_valid : validS awT10 = true := by
  unfold validS
  rw [awT10_form]
  decide +kernel
theorem awT10_in : posIn awT10 [1, 0, 0] = true := by decide +kernel
theorem awT10_next : nextR awT10 [1, 0, 0] = ([1, 1, 0], 0) := by
  rw [nextR, awT10_valid, awT10_in]
  have : nextS (allS [] awT10) [1, 0, 0] = some [1, 1, 0] := by decide +kernel
  rw [this]; rfl

theorem trees2 (W : World) (t1 t2 : Tree) (a0 a1 a2 a3 b0 b1 b2 b3 : Value) (h1 : treeE.R W (Lt W.heap.size) t1 [a0, a1, a2, a3]) (h2 : treeE.R W (Lt W.heap.size) t2 [b0, b1, b2, b3]) (g : Nat) (hg : g = W.heap.size) (e : TypeId) (W' : World) (hW' : W' = W.alloc (.cells #[a0, a1, a2, a3, b0, b1, b2, b3] e)) :
    SliceR treeE W' (Lt W'.heap.size) [t1, t2] (.slice (some ⟨g, 0, none⟩) 2 2) := by
  subst hW'
  have hL : ListR treeE W (Lt W.heap.size) [t1, t2] [a0, a1, a2, a3, b0, b1, b2, b3] := ListR.append (xs := [t1]) (ys := [t2]) (cs := [a0, a1, a2, a3]) (ds := [b0, b1, b2, b3]) (ListR.single (E := treeE) h1) (ListR.single (E := treeE) h2)
  exact trees_lit W [t1, t2] #[a0, a1, a2, a3, b0, b1, b2, b3] _ rfl hL (by simp [maxLen]) 2 g rfl hg e

theorem aw10_read (w W1 W2 W3 W4 : World) (e1 : W1 = w.alloc (.cells #[.int .i64 1, .string ⟨#[]⟩, .int .i64 0, .slice none 0 0, .int .i64 1, .string ⟨#[]⟩, .int .i64 0, .slice none 0 0] 24))
    (e2 : W2 = W1.alloc (.cells #[.int .i64 2, .string ⟨#[120]⟩, .int .i64 0, .slice none 0 0, .int .i64 5, .string ⟨#[]⟩, .int .i64 0, .slice (some ⟨w.heap.size, 0, none⟩) 2 2] 24))
    (e3 : W3 = W2.alloc (.cells #[.int .i64 1, .string ⟨#[]⟩, .int .i64 0, .slice (some ⟨w.heap.size + 1, 0, none⟩) 2 2] 24)) (e4 : W4 = W3.alloc (.cells #[.int .i64 1, .int .i64 0, .int .i64 0] 3)) :
    SliceR treeE W4 (Lt W4.heap.size) awT10.kids (.slice (some ⟨w.heap.size + 1, 0, none⟩) 2 2) ∧ IntsR W4 (Lt W4.heap.size) [1, 0, 0] (.slice (some ⟨w.heap.size + 1 + 1 + 1, 0, none⟩) 3 3) ∧ Below w.heap.size w W4 := by
  have r0 : ∀ W S, treeE.R W S (rowT' []) [.int .i64 1, .string ⟨#[]⟩, .int .i64 0, .slice none 0 0] := fun W S => tree_cells W S 1 0 ⟨#[]⟩ [] _ (by simp [In64]) (by simp [In64]) (sz_le (by decide)) (SliceR.nil_ 0 (by simp) none)
  have hb1 : Below w.heap.size w W1 := by rw [e1]; exact below_allocR' _ _
  have hb2 : Below w.heap.size w W2 := by rw [e2]; exact bl_alloc hb1 _
  have hb23 : Below W2.heap.size W2 W3 := by rw [e3]; exact below_allocR' _ _
  have hb24 : Below W2.heap.size W2 W4 := by rw [e4]; exact bl_alloc hb23 _
  have s1 : W1.heap.size = w.heap.size + 1 := by rw [e1]; simp
  have s2 : W2.heap.size = w.heap.size + 1 + 1 := by rw [e2]; simp [s1]
  have s3 : W3.heap.size = w.heap.size + 1 + 1 + 1 := by rw [e3]; simp [s2]
  have k1 := trees2 w _ _ _ _ _ _ _ _ _ _ (r0 w _) (r0 w _) w.heap.size rfl 24 W1 e1
  have k2 := trees2 W1 (symT ⟨#[120]⟩) (.mk 5 ⟨#[]⟩ 0 [rowT' [], rowT' []]) _ _ _ _ _ _ _ _ (sym_cells _ _ _ (sz_le (by decide))) (tree_cells _ _ 5 0 ⟨#[]⟩ _ _ (by simp [In64]) (by simp [In64]) (sz_le (by decide)) k1) (w.heap.size + 1) s1.symm 24 W2 e2
  refine ⟨k2.below hb24 hb24.size, ?_, hb2.trans (hb24.mono hb2.size)⟩
  subst e4
  exact ints_lit W3 [1, 0, 0] (by simp [In64]) (by unfold Lt; simp) _ 3 rfl rfl (by simp [maxLen]) _ _ s3.symm

theorem awake10_any (w : World) : Calls Try.prog 31 #[] w fun e w' => e = .returned (.bool true) ∧ Below w.heap.size w w' := by
  obtain ⟨h1, h2, h3⟩ := aw10_read w _ _ _ _ rfl rfl rfl rfl
  have HC := hid (next_any awT10 [1, 0, 0] _ 2 _ _ h1 (sz_le (by decide)) h2)
  rw [awT10_next] at HC
  have HBL := hid h3
  have CM : Hid (∀ (W : World) (S1 S2 : Nat → Prop) (v1 v2 : Value), IntsR W S1 [1, 1, 0] v1 → IntsR W S2 [1, 1, 0] v2 → Calls Try.prog 23 #[v1, v2] W fun e w' => e = .returned (.bool true) ∧ ∃ n, w' = W.drewN n) := by
    intro W S1 S2 v1 v2 h1 h2
    have h := same_q _ _ W v1 v2 S1 S2 h1 h2
    rw [decide_eq_true ((cmpS_zero _ _).2 rfl)] at h
    exact h
  clear h1 h2 h3
  go_enter Try.func31, Try.ntmps31
  go_wp2_with fail
  refine HC.out.mono ?_
  rintro e w1 ⟨hb1, v, rfl, hi⟩
  obtain ⟨A1, c1, rfl⟩ := hi.form
  have HB1 := hid (bl_call HBL.out hb1)
  have hbi : Below w1.heap.size w1 (w1.alloc (.cells #[.int .i64 1, .int .i64 1, .int .i64 0] 3)) := below_allocR' _ _
  have HCM := hid (CM.out _ _ _ _ _ ((hi.wide (S' := Lt w1.heap.size) (fun k hk => hk.2)).below hbi hbi.size) (ints_lit w1 [1, 1, 0] (by simp [In64]) (S := Lt (w1.alloc (.cells #[.int .i64 1, .int .i64 1, .int .i64 0] 3)).heap.size) (by unfold Lt; simp) _ 3 rfl rfl (by simp [maxLen]) _ _ rfl))
  clear hb1 hi hbi
  go_wp2_with fail
  refine HCM.out.mono ?_
  rintro e w2 ⟨rfl, n, rfl⟩
  go_wp2_with fail
  go_ret
  exact ⟨rfl, bl_dn (bl_alloc HB1.out _)⟩

def few10S (t : Tree) (a : List Int) : Bool := fewS t 200 && decide (a.length ≤ 60)
set_option maxHeartbeats 1000000 in
theorem few10_any (t : Tree) (a : List Int) (A Aa : Option Addr) (cap ca : Nat) (w : World) (hv : SliceR treeE w (Lt w.heap.size) t.kids (.slice A t.kids.length cap)) (ha : a.length ≤ maxLen) :
    Calls Try.prog 34 #[.agg #[.int .i64 t.kind, .string t.text, .int .i64 t.cols, .slice A t.kids.length cap], .slice Aa a.length ca] w fun e w' => e = .returned (.bool (few10S t a)) ∧ Below w.heap.size w w' := by
  have hb0 : Below w.heap.size w (w.alloc (.cells #[.int .i64 t.kind, .string t.text, .int .i64 t.cols, .slice A t.kids.length cap] 24)) := below_allocR' _ _
  have C1 := hid (few_any t (w.alloc (.cells #[.int .i64 t.kind, .string t.text, .int .i64 t.cols, .slice A t.kids.length cap] 24)) _ 200 (hv.below hb0 hb0.size) (by omega) (by omega))
  have HB0 := hid hb0
  have HF : Hid (few10S t a = (fewS t 200 && decide (a.length ≤ 60))) := rfl
  unfold maxLen at ha
  generalize fewS t 200 = b1 at *
  obtain ⟨tk, tx, tc, ts⟩ := t
  simp only [Tree.kind, Tree.text, Tree.cols, Tree.kids] at *
  rw [HF.out]
  clear hv hb0 HF
  by_cases h1 : a.length ≤ 60 <;> cases b1
  all_goals
    have d1 : decide ((a.length : Int) ≤ 60) = decide (a.length ≤ 60) := by rw [Bool.eq_iff_iff]; simp; omega
    first
      | rw [decide_eq_true h1] at d1 ⊢
      | rw [decide_eq_false h1] at d1 ⊢
    clear h1
    go_enter Try.func34, Try.ntmps34
    go_wp2_with fail
    refine C1.out.mono ?_
    rintro e w1 ⟨rfl, hb1⟩
    have HB1 := hid (bl_call HB0.out hb1)
    clear hb1
    go_wp2_with fail
    go_ret
    exact ⟨rfl, HB1.out⟩
theorem few10_count {t : Tree} {a : List Int} (h : few10S t a = true) : countS t ≤ 200 ∧ a.length ≤ 60 := by
  unfold few10S at h
  simp only [Bool.and_eq_true, decide_eq_true_eq] at h
  exact ⟨by have := few_count h.1; omega, h.2⟩

set_option maxHeartbeats 1000000 in
theorem first_any (t : Tree) (A : Option Addr) (cap : Nat) (w : World) (hv : SliceR treeE w (Lt w.heap.size) t.kids (.slice A t.kids.length cap)) (htx : t.text.size ≤ maxLen) :
    Calls Try.prog 40 #[.agg #[.int .i64 t.kind, .string t.text, .int .i64 t.cols, .slice A t.kids.length cap]] w (PosRes w (firstR t)) := by
  have HB0 : Hid (Below w.heap.size w (w.alloc (Obj.cells #[.int .i64 t.kind, .string t.text, .int .i64 t.cols, .slice A t.kids.length cap] 24))) := below_allocR' _ _
  have C1 := hid (nValid_any t A cap _ (hv.below HB0.out HB0.out.size) htx)
  have HF : Hid (firstR t = if validS t then ([0], 0) else ([], 1)) := rfl
  rw [HF.out]
  clear HF
  generalize validS t = b at *
  obtain ⟨tk, tx, tc, ts⟩ := t
  simp only [Tree.kind, Tree.text, Tree.cols, Tree.kids] at *
  clear hv htx
  cases b
  · have e : (if false = true then (([0], 0) : List Int × Int) else ([], 1)) = ([], 1) := rfl
    rw [e]; clear e
    go_enter Try.func40, Try.ntmps40
    go_wp2_with fail
    refine C1.out.mono ?_
    rintro e w1 ⟨rfl, hb1⟩
    have HB1 := hid (bl_call HB0.out hb1)
    clear hb1
    go_wp2_with fail
    go_ret2
    exact ⟨HB1.out, _, rfl, SliceR.nil_ 0 (by simp [maxLen]) none⟩
  · have e : (if true = true then (([0], 0) : List Int × Int) else ([], 1)) = ([0], 0) := rfl
    rw [e]; clear e
    go_enter Try.func40, Try.ntmps40
    go_wp2_with fail
    refine C1.out.mono ?_
    rintro e w1 ⟨rfl, hb1⟩
    have HB1 := hid (bl_call HB0.out hb1)
    clear hb1
    go_wp2_with fail
    go_ret2
    exact ⟨bl_alloc HB1.out _, _, rfl, ints_lit w1 [0] (by simp [In64]) ⟨HB1.out.size, by simp⟩ _ 1 rfl rfl (by simp [maxLen]) _ _ rfl⟩

set_option maxHeartbeats 1000000 in
theorem last_any (t : Tree) (A : Option Addr) (cap : Nat) (w : World) (hv : SliceR treeE w (Lt w.heap.size) t.kids (.slice A t.kids.length cap)) (htx : t.text.size ≤ maxLen) :
    Calls Try.prog 41 #[.agg #[.int .i64 t.kind, .string t.text, .int .i64 t.cols, .slice A t.kids.length cap]] w (PosRes w (lastR t)) := by
  have HB0 : Hid (Below w.heap.size w (w.alloc (Obj.cells #[.int .i64 t.kind, .string t.text, .int .i64 t.cols, .slice A t.kids.length cap] 24))) := below_allocR' _ _
  have KB : Hid (∀ W, Below (w.alloc (Obj.cells #[.int .i64 t.kind, .string t.text, .int .i64 t.cols, .slice A t.kids.length cap] 24)).heap.size (w.alloc (Obj.cells #[.int .i64 t.kind, .string t.text, .int .i64 t.cols, .slice A t.kids.length cap] 24)) W → NBox W w.heap.size t.kind t.cols t.text (.slice A t.kids.length cap)) :=
    fun W hW => (NBox.new w t.kind t.cols t.text _).below hW (by simp)
  have C1 := hid (nValid_any t A cap _ (hv.below HB0.out HB0.out.size) htx)
  have hl : t.kids.length ≤ 9223372036854775807 := by have := hv.lens; unfold maxLen at this; omega
  have HF : Hid (lastR t = if validS t then ([(t.kids.length : Int)], 0) else ([], 1)) := rfl
  rw [HF.out]
  clear HF
  generalize validS t = b at *
  obtain ⟨tk, tx, tc, ts⟩ := t
  simp only [Tree.kind, Tree.text, Tree.cols, Tree.kids] at *
  clear hv htx
  cases b
  · have e : (if false = true then (([(ts.length : Int)], 0) : List Int × Int) else ([], 1)) = ([], 1) := rfl
    rw [e]; clear e
    go_enter Try.func41, Try.ntmps41
    go_wp2_with fail
    refine C1.out.mono ?_
    rintro e w1 ⟨rfl, hb1⟩
    have HB1 := hid (bl_call HB0.out hb1)
    clear hb1
    go_wp2_with fail
    go_ret2
    exact ⟨HB1.out, _, rfl, SliceR.nil_ 0 (by simp [maxLen]) none⟩
  · have e : (if true = true then (([(ts.length : Int)], 0) : List Int × Int) else ([], 1)) = ([(ts.length : Int)], 0) := rfl
    rw [e]; clear e
    go_enter Try.func41, Try.ntmps41
    go_wp2_with fail
    refine C1.out.mono ?_
    rintro e w1 ⟨rfl, hb1⟩
    have HB1 := hid (bl_call HB0.out hb1)
    obtain ⟨p0, p1, p2, p3⟩ := KB.out w1 hb1
    clear hb1
    go_wp2_with fail
    go_ret2
    exact ⟨bl_alloc HB1.out _, _, rfl, ints_lit w1 [(ts.length : Int)] (by simp [In64]; omega) ⟨HB1.out.size, by simp⟩ _ 1 rfl rfl (by simp [maxLen]) _ _ rfl⟩
end Go.Proofs.Ytognlokeadlpbaa
