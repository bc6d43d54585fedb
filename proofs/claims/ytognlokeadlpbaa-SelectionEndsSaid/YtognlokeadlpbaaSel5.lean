/- selection.Start, End; ref11.Start, End. Written by wip/gensel5.py. -/
import Derived.Test.YtognlokeadlpbaaRowL
import Derived.Deep.RegionHeld3
set_option linter.unusedVariables false
set_option linter.unusedSimpArgs false
set_option maxRecDepth 100000
namespace Go.Proofs.Ytognlokeadlpbaa
open Go.RowKit

/-- Two lists, laid as a list of lists. -/
theorem rows_two {W : World} {xs ys : List Int} {u v : Value} (hu : IntsR W (Lt W.heap.size) xs u) (hv : IntsR W (Lt W.heap.size) ys v) (g : Nat) (hg : g = W.heap.size) (e : TypeId) :
    SliceR (sliceE intE) (W.alloc (.cells #[u, v] e)) (Lt (W.alloc (.cells #[u, v] e)).heap.size) [xs, ys] (.slice (some ⟨g, 0, none⟩) 2 2) := by
  subst hg
  have hb : Below W.heap.size W (W.alloc (.cells #[u, v] e)) := below_allocR _ _
  refine ⟨_, _, [u, v], rfl, Nat.le_refl _, by simp [maxLen], fun _ => ⟨W.heap.size, 0, rfl, by unfold Lt; simp, fun j x hx => ?_⟩, [u], [v], rfl, ⟨u, rfl, hu.below hb hb.size⟩, ListR.single (E := sliceE intE) ⟨v, rfl, hv.below hb hb.size⟩⟩
  rw [Nat.zero_add, World.cell?_alloc_new]
  simpa using hx

set_option maxHeartbeats 1000000 in
theorem sstart_any (row : List Int) (x y : Int) (vr : Value) (w : World) (hr : IntsR w (Lt w.heap.size) row vr) (hrl : row.length ≤ 100000) (hx : In64 x) :
    Calls Try.prog 24 #[.agg #[vr, .int .i64 x, .int .i64 y]] w (IntsPost w (row ++ [x])) := by
  obtain ⟨Ar, cr, rfl⟩ := hr.form
  have hb0 : Below w.heap.size w (w.alloc (.cells #[.slice Ar row.length cr, .int .i64 x, .int .i64 y] 29)) := below_allocR _ _
  have hr0 := hr.below hb0 hb0.size
  generalize hW0 : w.alloc (.cells #[.slice Ar row.length cr, .int .i64 x, .int .i64 y] 29) = W0 at *
  have hb1 : Below W0.heap.size W0 (W0.alloc (.cells #[.int .i64 x] 3)) := below_allocR _ _
  have HC : Hid (Calls Try.prog 58 #[.slice (some ⟨W0.heap.size + 1, 0, none⟩) 2 2] ((W0.alloc (.cells #[.int .i64 x] 3)).alloc (.cells #[.slice Ar row.length cr, .slice (some ⟨W0.heap.size, 0, none⟩) 1 1] 25)) (OwnPost ((W0.alloc (.cells #[.int .i64 x] 3)).alloc (.cells #[.slice Ar row.length cr, .slice (some ⟨W0.heap.size, 0, none⟩) 1 1] 25)) [row, [x]].flatten)) :=
    concat_any [row, [x]] _ _ (rows_two (hr0.below hb1 hb1.size) (ints_lit W0 [x] (by simpa using hx) (by unfold Lt; simp) _ 1 rfl rfl (by simp [maxLen]) _ _ rfl) _ (by simp) _) (by simp; omega)
  have HB : Hid (Below w.heap.size w ((W0.alloc (.cells #[.int .i64 x] 3)).alloc (.cells #[.slice Ar row.length cr, .slice (some ⟨W0.heap.size, 0, none⟩) 1 1] 25))) := by
    have h2 := hb0.trans (hb1.mono hb0.size)
    exact h2.alloc h2.size _
  have m0 : W0.cell? ⟨w.heap.size, 0, none⟩ = some (.slice Ar row.length cr) := by rw [← hW0, World.cell?_alloc_new]; rfl
  have m1 : W0.cell? ⟨w.heap.size, 1, none⟩ = some (.int .i64 x) := by rw [← hW0, World.cell?_alloc_new]; rfl
  have HF : Hid ([row, [x]].flatten = row ++ [x]) := by show _ = _; simp
  rw [HF.out] at HC
  clear hr hr0 hb0 hb1 HF
  go_enter Try.func24, Try.ntmps24
  go_wp2_with fail
  clear hW0
  refine HC.out.mono ?_
  rintro e w1 ⟨v1, rfl, ho, hb⟩
  have HO := hid ho
  have HB1 := hid (HB.out.trans (hb.mono HB.out.size))
  clear ho hb
  go_wp2_with fail
  go_ret
  exact ⟨_, rfl, HO.out.ints (fun _ _ h => h), HB1.out⟩

set_option maxHeartbeats 1000000 in
theorem send_any (row : List Int) (x y : Int) (vr : Value) (w : World) (hr : IntsR w (Lt w.heap.size) row vr) (hrl : row.length ≤ 100000) (hx : In64 x) :
    Calls Try.prog 26 #[.agg #[vr, .int .i64 y, .int .i64 x]] w (IntsPost w (row ++ [x])) := by
  obtain ⟨Ar, cr, rfl⟩ := hr.form
  have hb0 : Below w.heap.size w (w.alloc (.cells #[.slice Ar row.length cr, .int .i64 y, .int .i64 x] 29)) := below_allocR _ _
  have hr0 := hr.below hb0 hb0.size
  generalize hW0 : w.alloc (.cells #[.slice Ar row.length cr, .int .i64 y, .int .i64 x] 29) = W0 at *
  have hb1 : Below W0.heap.size W0 (W0.alloc (.cells #[.int .i64 x] 3)) := below_allocR _ _
  have HC : Hid (Calls Try.prog 58 #[.slice (some ⟨W0.heap.size + 1, 0, none⟩) 2 2] ((W0.alloc (.cells #[.int .i64 x] 3)).alloc (.cells #[.slice Ar row.length cr, .slice (some ⟨W0.heap.size, 0, none⟩) 1 1] 25)) (OwnPost ((W0.alloc (.cells #[.int .i64 x] 3)).alloc (.cells #[.slice Ar row.length cr, .slice (some ⟨W0.heap.size, 0, none⟩) 1 1] 25)) [row, [x]].flatten)) :=
    concat_any [row, [x]] _ _ (rows_two (hr0.below hb1 hb1.size) (ints_lit W0 [x] (by simpa using hx) (by unfold Lt; simp) _ 1 rfl rfl (by simp [maxLen]) _ _ rfl) _ (by simp) _) (by simp; omega)
  have HB : Hid (Below w.heap.size w ((W0.alloc (.cells #[.int .i64 x] 3)).alloc (.cells #[.slice Ar row.length cr, .slice (some ⟨W0.heap.size, 0, none⟩) 1 1] 25))) := by
    have h2 := hb0.trans (hb1.mono hb0.size)
    exact h2.alloc h2.size _
  have m0 : W0.cell? ⟨w.heap.size, 0, none⟩ = some (.slice Ar row.length cr) := by rw [← hW0, World.cell?_alloc_new]; rfl
  have m1 : W0.cell? ⟨w.heap.size, 2, none⟩ = some (.int .i64 x) := by rw [← hW0, World.cell?_alloc_new]; rfl
  have HF : Hid ([row, [x]].flatten = row ++ [x]) := by show _ = _; simp
  rw [HF.out] at HC
  clear hr hr0 hb0 hb1 HF
  go_enter Try.func26, Try.ntmps26
  go_wp2_with fail
  clear hW0
  refine HC.out.mono ?_
  rintro e w1 ⟨v1, rfl, ho, hb⟩
  have HO := hid ho
  have HB1 := hid (HB.out.trans (hb.mono HB.out.size))
  clear ho hb
  go_wp2_with fail
  go_ret
  exact ⟨_, rfl, HO.out.ints (fun _ _ h => h), HB1.out⟩

set_option maxHeartbeats 4000000 in
theorem rstart_any (row : List Int) (x y : Int) (vr : Value) (w : World) (hr : IntsR w (Lt w.heap.size) row vr) (hrl : row.length ≤ 100000) (hx : In64 x) :
    Calls Try.prog 25 #[.agg #[vr, .int .i64 x, .int .i64 y]] w (IntsPost w (row ++ [x])) := by
  obtain ⟨Ar, cr, rfl⟩ := hr.form
  have hb0 : Below w.heap.size w (w.alloc (.cells #[.slice Ar row.length cr, .int .i64 x, .int .i64 y] 29)) := below_allocR _ _
  have hr0 := hr.below hb0 hb0.size
  generalize hW0 : w.alloc (.cells #[.slice Ar row.length cr, .int .i64 x, .int .i64 y] 29) = W0 at *
  have hz : w.heap.size < W0.heap.size := by rw [← hW0]; simp
  have m0 : W0.cell? ⟨w.heap.size, 0, none⟩ = some (.slice Ar row.length cr) := by rw [← hW0, World.cell?_alloc_new]; rfl
  have m1 : W0.cell? ⟨w.heap.size, 1, none⟩ = some (.int .i64 x) := by rw [← hW0, World.cell?_alloc_new]; rfl
  have KC : Hid (∀ W, Below W0.heap.size W0 W → W.cell? ⟨w.heap.size, 0, none⟩ = some (.slice Ar row.length cr) ∧ W.cell? ⟨w.heap.size, 1, none⟩ = some (.int .i64 x)) := fun W h => ⟨((bcell h).1 _ _ hz).trans m0, ((bcell h).1 _ _ hz).trans m1⟩
  have HE1 : Hid (∀ W', W' = W0.alloc (.cells #[] 3) → Owns W'.drew W0.heap.size [] (.slice (some ⟨W0.heap.size, 0, none⟩) 0 0) ∧ IntsR W'.drew (Lt W'.drew.heap.size) row (.slice Ar row.length cr) ∧ Below W0.heap.size W0 W'.drew) := by
    rintro W' rfl
    have hb : Below W0.heap.size W0 (W0.alloc (.cells #[] 3)).drew := (below_allocR _ _).drew
    exact ⟨owns_empty W0, hr0.below hb hb.size, hb⟩
  have HE2 : Hid (∀ W', W' = (W0.alloc (.cells #[] 3)).alloc (.cells #[.int .i64 x] 3) → Owns W'.drew W0.heap.size [] (.slice (some ⟨W0.heap.size, 0, none⟩) 0 0) ∧ IntsR W'.drew (Lt W'.drew.heap.size) row (.slice Ar row.length cr) ∧ Below W0.heap.size W0 W'.drew ∧ IntsR W'.drew (fun k => k = W0.heap.size + 1) [x] (.slice (some ⟨W0.heap.size + 1, 0, none⟩) 1 1) ∧ W'.drew.heap.size = W0.heap.size + 1 + 1) := by
    rintro W' rfl
    have hb1 : Below W0.heap.size W0 (W0.alloc (.cells #[] 3)) := below_allocR _ _
    have hb : Below W0.heap.size W0 ((W0.alloc (.cells #[] 3)).alloc (.cells #[.int .i64 x] 3)).drew := (Below.alloc hb1 hb1.size _).drew
    exact ⟨(owns_empty W0).below ((below_allocR _ _).drew), hr0.below hb hb.size, hb, ints_lit (W0.alloc (.cells #[] 3)) [x] (by simpa using hx) (S := fun k => k = W0.heap.size + 1) (by simp) _ 1 rfl rfl (by simp [maxLen]) _ _ (by simp), by simp⟩
  have HE3 : Hid (∀ W', W' = (W0.alloc (.cells #[.int .i64 x] 3)).alloc (.cells #[] 3) → Owns W'.drew W0.heap.size [] (.slice (some ⟨W0.heap.size + 1, 0, none⟩) 0 0) ∧ IntsR W'.drew (Lt W'.drew.heap.size) row (.slice Ar row.length cr) ∧ Below W0.heap.size W0 W'.drew ∧ IntsR W'.drew (fun k => k = W0.heap.size) [x] (.slice (some ⟨W0.heap.size, 0, none⟩) 1 1) ∧ W'.drew.heap.size = W0.heap.size + 1 + 1) := by
    rintro W' rfl
    have hb1 : Below W0.heap.size W0 (W0.alloc (.cells #[.int .i64 x] 3)) := below_allocR _ _
    have hb : Below W0.heap.size W0 ((W0.alloc (.cells #[.int .i64 x] 3)).alloc (.cells #[] 3)).drew := (Below.alloc hb1 hb1.size _).drew
    have ho := (owns_empty (W0.alloc (.cells #[.int .i64 x] 3))).base (b' := W0.heap.size) (by simp)
    have hsz : (W0.alloc (.cells #[.int .i64 x] 3)).heap.size = W0.heap.size + 1 := by simp
    rw [hsz] at ho
    exact ⟨ho, hr0.below hb hb.size, hb, (ints_lit W0 [x] (by simpa using hx) (S := fun k => k = W0.heap.size) rfl _ 1 rfl rfl (by simp [maxLen]) _ _ rfl).keep (fun p hp => (below_allocR (W0.alloc (.cells #[.int .i64 x] 3)) (.cells #[] 3)).cell (by rw [hp]; simp)) (fun _ h => h), by simp⟩
  have HB0 := hid hb0
  have HX := hid hx
  clear hr hr0 hb0 hx
  go_enter Try.func25, Try.ntmps25
  go_wp2_with fail
  clear hW0
  go_region_held3 (fun w' => w'.cell? ⟨w.heap.size, 0, none⟩ = some (.slice Ar row.length cr) ∧ w'.cell? ⟨w.heap.size, 1, none⟩ = some (.int .i64 x)) (go_keep) (first
    | (refine step_app_intsR (by rfl) (.tmp 3) (.tmp 5) (by rfl) W0.heap.size _ [] row (by rfl) (HE1.out _ rfl).1 _ _ _ _ (by rfl) (HE1.out _ rfl).2.1 (by simp; omega) (by simp) ?_; intro v1 w1 hown1 hb1 hg1; have HO1 := hid hown1; have HB1 := hid ((HE1.out _ rfl).2.2.trans hb1); obtain ⟨p1, p2⟩ := KC.out w1 HB1.out; clear hown1 hb1 hg1)
    | (refine step_app_intsR (by rfl) (.tmp 3) (.tmp 5) (by rfl) W0.heap.size _ [] row (by rfl) (HE2.out _ rfl).1 _ _ _ _ (by rfl) (HE2.out _ rfl).2.1 (by simp; omega) (by simp; omega) ?_; intro v1 w1 hown1 hb1 hg1; have HL1 := hid (ints_grown (HE2.out _ rfl).2.2.2.1 hg1 (by have := (HE2.out _ rfl).2.2.2.2; omega) (by simp [Value.ownBlock])); have HO1 := hid hown1; have HB1 := hid ((HE2.out _ rfl).2.2.1.trans hb1); obtain ⟨p1, p2⟩ := KC.out w1 HB1.out; clear hown1 hb1 hg1)
    | (refine step_app_intsR (by rfl) (.tmp 3) (.tmp 5) (by rfl) W0.heap.size _ [] row (by rfl) (HE3.out _ rfl).1 _ _ _ _ (by rfl) (HE3.out _ rfl).2.1 (by simp; omega) (by simp; omega) ?_; intro v1 w1 hown1 hb1 hg1; have HL1 := hid (ints_grown (HE3.out _ rfl).2.2.2.1 hg1 (by have := (HE3.out _ rfl).2.2.2.2; omega) (by simp [Value.ownBlock])); have HO1 := hid hown1; have HB1 := hid ((HE3.out _ rfl).2.2.1.trans hb1); obtain ⟨p1, p2⟩ := KC.out w1 HB1.out; clear hown1 hb1 hg1)
    | (refine step_app_intsR (by rfl) (.tmp 6) (.tmp 9) (by rfl) W0.heap.size v1 ([] ++ row) [x] (by rfl) HO1.out _ _ _ _ (by rfl) HL1.out (by simp; omega) HB1.out.size ?_; intro v2 w2 hown2 hb2 _; simp only [List.nil_append] at hown2; have HO2 := hid hown2; have HB2 := hid (HB1.out.trans hb2); obtain ⟨p1, p2⟩ := KC.out w2 HB2.out; clear hown2 hb2)
    | (refine step_app_intsR (by rfl) (.tmp 6) (.tmp 9) (by rfl) W0.heap.size v1 ([] ++ row) [x] (by rfl) (HO1.out.below (below_allocR _ _)) (Lt (w1.alloc (.cells #[.int .i64 x] 3)).heap.size) _ _ _ (by rfl) (ints_lit w1 [x] (by simpa using HX.out) (by unfold Lt; simp) _ 1 rfl rfl (by simp [maxLen]) _ _ rfl) (by simp; omega) (by have := HB1.out.size; simp; omega) ?_; intro v2 w2 hown2 hb2 _; simp only [List.nil_append] at hown2; have HO2 := hid hown2; have HB2 := hid (HB1.out.trans ((Below.alloc (Below.refl W0.heap.size w1) HB1.out.size _).trans hb2)); obtain ⟨p1, p2⟩ := KC.out w2 HB2.out; clear hown2 hb2))
  all_goals
    go_wp2_with fail
    go_ret
    exact ⟨_, rfl, HO2.out.ints (fun _ _ h => h), HB0.out.trans (HB2.out.mono HB0.out.size)⟩

set_option maxHeartbeats 4000000 in
theorem rend_any (row : List Int) (x y : Int) (vr : Value) (w : World) (hr : IntsR w (Lt w.heap.size) row vr) (hrl : row.length ≤ 100000) (hx : In64 x) :
    Calls Try.prog 27 #[.agg #[vr, .int .i64 y, .int .i64 x]] w (IntsPost w (row ++ [x])) := by
  obtain ⟨Ar, cr, rfl⟩ := hr.form
  have hb0 : Below w.heap.size w (w.alloc (.cells #[.slice Ar row.length cr, .int .i64 y, .int .i64 x] 29)) := below_allocR _ _
  have hr0 := hr.below hb0 hb0.size
  generalize hW0 : w.alloc (.cells #[.slice Ar row.length cr, .int .i64 y, .int .i64 x] 29) = W0 at *
  have hz : w.heap.size < W0.heap.size := by rw [← hW0]; simp
  have m0 : W0.cell? ⟨w.heap.size, 0, none⟩ = some (.slice Ar row.length cr) := by rw [← hW0, World.cell?_alloc_new]; rfl
  have m1 : W0.cell? ⟨w.heap.size, 2, none⟩ = some (.int .i64 x) := by rw [← hW0, World.cell?_alloc_new]; rfl
  have KC : Hid (∀ W, Below W0.heap.size W0 W → W.cell? ⟨w.heap.size, 0, none⟩ = some (.slice Ar row.length cr) ∧ W.cell? ⟨w.heap.size, 2, none⟩ = some (.int .i64 x)) := fun W h => ⟨((bcell h).1 _ _ hz).trans m0, ((bcell h).1 _ _ hz).trans m1⟩
  have HE1 : Hid (∀ W', W' = W0.alloc (.cells #[] 3) → Owns W'.drew W0.heap.size [] (.slice (some ⟨W0.heap.size, 0, none⟩) 0 0) ∧ IntsR W'.drew (Lt W'.drew.heap.size) row (.slice Ar row.length cr) ∧ Below W0.heap.size W0 W'.drew) := by
    rintro W' rfl
    have hb : Below W0.heap.size W0 (W0.alloc (.cells #[] 3)).drew := (below_allocR _ _).drew
    exact ⟨owns_empty W0, hr0.below hb hb.size, hb⟩
  have HE2 : Hid (∀ W', W' = (W0.alloc (.cells #[] 3)).alloc (.cells #[.int .i64 x] 3) → Owns W'.drew W0.heap.size [] (.slice (some ⟨W0.heap.size, 0, none⟩) 0 0) ∧ IntsR W'.drew (Lt W'.drew.heap.size) row (.slice Ar row.length cr) ∧ Below W0.heap.size W0 W'.drew ∧ IntsR W'.drew (fun k => k = W0.heap.size + 1) [x] (.slice (some ⟨W0.heap.size + 1, 0, none⟩) 1 1) ∧ W'.drew.heap.size = W0.heap.size + 1 + 1) := by
    rintro W' rfl
    have hb1 : Below W0.heap.size W0 (W0.alloc (.cells #[] 3)) := below_allocR _ _
    have hb : Below W0.heap.size W0 ((W0.alloc (.cells #[] 3)).alloc (.cells #[.int .i64 x] 3)).drew := (Below.alloc hb1 hb1.size _).drew
    exact ⟨(owns_empty W0).below ((below_allocR _ _).drew), hr0.below hb hb.size, hb, ints_lit (W0.alloc (.cells #[] 3)) [x] (by simpa using hx) (S := fun k => k = W0.heap.size + 1) (by simp) _ 1 rfl rfl (by simp [maxLen]) _ _ (by simp), by simp⟩
  have HE3 : Hid (∀ W', W' = (W0.alloc (.cells #[.int .i64 x] 3)).alloc (.cells #[] 3) → Owns W'.drew W0.heap.size [] (.slice (some ⟨W0.heap.size + 1, 0, none⟩) 0 0) ∧ IntsR W'.drew (Lt W'.drew.heap.size) row (.slice Ar row.length cr) ∧ Below W0.heap.size W0 W'.drew ∧ IntsR W'.drew (fun k => k = W0.heap.size) [x] (.slice (some ⟨W0.heap.size, 0, none⟩) 1 1) ∧ W'.drew.heap.size = W0.heap.size + 1 + 1) := by
    rintro W' rfl
    have hb1 : Below W0.heap.size W0 (W0.alloc (.cells #[.int .i64 x] 3)) := below_allocR _ _
    have hb : Below W0.heap.size W0 ((W0.alloc (.cells #[.int .i64 x] 3)).alloc (.cells #[] 3)).drew := (Below.alloc hb1 hb1.size _).drew
    have ho := (owns_empty (W0.alloc (.cells #[.int .i64 x] 3))).base (b' := W0.heap.size) (by simp)
    have hsz : (W0.alloc (.cells #[.int .i64 x] 3)).heap.size = W0.heap.size + 1 := by simp
    rw [hsz] at ho
    exact ⟨ho, hr0.below hb hb.size, hb, (ints_lit W0 [x] (by simpa using hx) (S := fun k => k = W0.heap.size) rfl _ 1 rfl rfl (by simp [maxLen]) _ _ rfl).keep (fun p hp => (below_allocR (W0.alloc (.cells #[.int .i64 x] 3)) (.cells #[] 3)).cell (by rw [hp]; simp)) (fun _ h => h), by simp⟩
  have HB0 := hid hb0
  have HX := hid hx
  clear hr hr0 hb0 hx
  go_enter Try.func27, Try.ntmps27
  go_wp2_with fail
  clear hW0
  go_region_held3 (fun w' => w'.cell? ⟨w.heap.size, 0, none⟩ = some (.slice Ar row.length cr) ∧ w'.cell? ⟨w.heap.size, 2, none⟩ = some (.int .i64 x)) (go_keep) (first
    | (refine step_app_intsR (by rfl) (.tmp 3) (.tmp 5) (by rfl) W0.heap.size _ [] row (by rfl) (HE1.out _ rfl).1 _ _ _ _ (by rfl) (HE1.out _ rfl).2.1 (by simp; omega) (by simp) ?_; intro v1 w1 hown1 hb1 hg1; have HO1 := hid hown1; have HB1 := hid ((HE1.out _ rfl).2.2.trans hb1); obtain ⟨p1, p2⟩ := KC.out w1 HB1.out; clear hown1 hb1 hg1)
    | (refine step_app_intsR (by rfl) (.tmp 3) (.tmp 5) (by rfl) W0.heap.size _ [] row (by rfl) (HE2.out _ rfl).1 _ _ _ _ (by rfl) (HE2.out _ rfl).2.1 (by simp; omega) (by simp; omega) ?_; intro v1 w1 hown1 hb1 hg1; have HL1 := hid (ints_grown (HE2.out _ rfl).2.2.2.1 hg1 (by have := (HE2.out _ rfl).2.2.2.2; omega) (by simp [Value.ownBlock])); have HO1 := hid hown1; have HB1 := hid ((HE2.out _ rfl).2.2.1.trans hb1); obtain ⟨p1, p2⟩ := KC.out w1 HB1.out; clear hown1 hb1 hg1)
    | (refine step_app_intsR (by rfl) (.tmp 3) (.tmp 5) (by rfl) W0.heap.size _ [] row (by rfl) (HE3.out _ rfl).1 _ _ _ _ (by rfl) (HE3.out _ rfl).2.1 (by simp; omega) (by simp; omega) ?_; intro v1 w1 hown1 hb1 hg1; have HL1 := hid (ints_grown (HE3.out _ rfl).2.2.2.1 hg1 (by have := (HE3.out _ rfl).2.2.2.2; omega) (by simp [Value.ownBlock])); have HO1 := hid hown1; have HB1 := hid ((HE3.out _ rfl).2.2.1.trans hb1); obtain ⟨p1, p2⟩ := KC.out w1 HB1.out; clear hown1 hb1 hg1)
    | (refine step_app_intsR (by rfl) (.tmp 6) (.tmp 9) (by rfl) W0.heap.size v1 ([] ++ row) [x] (by rfl) HO1.out _ _ _ _ (by rfl) HL1.out (by simp; omega) HB1.out.size ?_; intro v2 w2 hown2 hb2 _; simp only [List.nil_append] at hown2; have HO2 := hid hown2; have HB2 := hid (HB1.out.trans hb2); obtain ⟨p1, p2⟩ := KC.out w2 HB2.out; clear hown2 hb2)
    | (refine step_app_intsR (by rfl) (.tmp 6) (.tmp 9) (by rfl) W0.heap.size v1 ([] ++ row) [x] (by rfl) (HO1.out.below (below_allocR _ _)) (Lt (w1.alloc (.cells #[.int .i64 x] 3)).heap.size) _ _ _ (by rfl) (ints_lit w1 [x] (by simpa using HX.out) (by unfold Lt; simp) _ 1 rfl rfl (by simp [maxLen]) _ _ rfl) (by simp; omega) (by have := HB1.out.size; simp; omega) ?_; intro v2 w2 hown2 hb2 _; simp only [List.nil_append] at hown2; have HO2 := hid hown2; have HB2 := hid (HB1.out.trans ((Below.alloc (Below.refl W0.heap.size w1) HB1.out.size _).trans hb2)); obtain ⟨p1, p2⟩ := KC.out w2 HB2.out; clear hown2 hb2))
  all_goals
    go_wp2_with fail
    go_ret
    exact ⟨_, rfl, HO2.out.ints (fun _ _ h => h), HB0.out.trans (HB2.out.mono HB0.out.size)⟩
end Go.Proofs.Ytognlokeadlpbaa
