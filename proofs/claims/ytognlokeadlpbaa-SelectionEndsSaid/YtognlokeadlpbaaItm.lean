/- selection.Items. -/
import Derived.Test.YtognlokeadlpbaaRow0
import Derived.Test.YtognlokeadlpbaaCuts
set_option linter.unusedVariables false
set_option linter.unusedSimpArgs false
set_option maxRecDepth 100000
namespace Go.Proofs.Ytognlokeadlpbaa
open Go.RowKit

/-- What Items answers. -/
def itemsR (t : Tree) (p : List Int) (x y : Int) : List Tree × Int := if (rowRes t p).2 ≠ 0 then ([], (rowRes t p).2) else if x < 0 ∨ y < x ∨ (rowRes t p).1.kids.length < y then ([], 2) else (((rowRes t p).1.kids.take y.toNat).drop x.toNat, 0)
def ItemsRes (w : World) (r : List Tree × Int) (e : Ending) (w' : World) : Prop :=
  ∃ v, e = .returned (.tuple #[v, .int .i64 r.2]) ∧ SliceR treeE w' (Lt w'.heap.size) r.1 v ∧ Below w.heap.size w w'
def RowV (w : World) (x : Tree) (er : Int) (e : Ending) (w' : World) : Prop :=
  ∃ v, e = .returned (.tuple #[.agg #[.int .i64 x.kind, .string x.text, .int .i64 x.cols, v], .int .i64 er]) ∧ SliceR treeE w' (Lt w'.heap.size) x.kids v ∧ Below w.heap.size w w'
theorem rowRes_count (t : Tree) (p : List Int) {m : Nat} {w : World} {S : Nat → Prop} {v : Value} (hv : SliceR treeE w S t.kids v) (hok : NodeOk t) (h : countS t ≤ m) : countsS (rowRes t p).1.kids ≤ m := by
  have hz : countsS zeroT.kids ≤ m := Nat.zero_le _
  unfold rowRes
  split
  · exact hz
  · split
    · exact hz
    · rename_i h1 h2
      have hr := find_row t p
      rw [if_pos (by simpa using h2)] at hr
      have := (rowS_ok t p _ hr hok ⟨v, hv⟩).2
      rw [countS_kids] at this
      show countsS (findS t p).1.kids ≤ m
      omega
theorem countsS_drop_le (ts : List Tree) (k : Nat) : countsS (ts.drop k) ≤ countsS ts := by
  have h := countsS_append (ts.take k) (ts.drop k)
  rw [List.take_append_drop] at h
  omega

set_option maxHeartbeats 4000000 in
theorem items_any (t : Tree) (p : List Int) (x y : Int) (A Ap : Option Addr) (cap cp : Nat) (w : World) (hv : SliceR treeE w (Lt w.heap.size) t.kids (.slice A t.kids.length cap)) (hok : NodeOk t) (hct : countS t ≤ 900000) (hp : IntsR w (Lt w.heap.size) p (.slice Ap p.length cp)) (hx : In64 x) (hy : In64 y) :
    Calls Try.prog 28 #[.agg #[.int .i64 t.kind, .string t.text, .int .i64 t.cols, .slice A t.kids.length cap], .agg #[.slice Ap p.length cp, .int .i64 x, .int .i64 y]] w (ItemsRes w (itemsR t p x y)) := by
  have C1 : Hid (∀ W, Below w.heap.size w W → Calls Try.prog 59 #[.agg #[.int .i64 t.kind, .string t.text, .int .i64 t.cols, .slice A t.kids.length cap], .slice Ap p.length cp] W (RowV W (rowRes t p).1 (rowRes t p).2)) := fun W hW => (nRow_any (.mk t.kind t.text t.cols t.kids) p A Ap cap cp W (by exact hv.below hW hW.size) hok (by cases t; exact hct) (hp.below hW hW.size)).mono fun _ _ h => by cases t; obtain ⟨v, h1, h2, h3⟩ := h; exact ⟨v, h1, h2.keep (sameRefl _ _) (fun k hk => hk.2), h3⟩
  have HR : Hid (((rowRes t p).2 ≠ 0 → itemsR t p x y = ([], (rowRes t p).2)) ∧ ((rowRes t p).2 = 0 → (x < 0 ∨ y < x ∨ (rowRes t p).1.kids.length < y) → itemsR t p x y = ([], 2)) ∧ ((rowRes t p).2 = 0 → ¬ (x < 0 ∨ y < x ∨ (rowRes t p).1.kids.length < y) → itemsR t p x y = (((rowRes t p).1.kids.take y.toNat).drop x.toNat, 0))) :=
    ⟨fun h => if_pos h, fun h1 h2 => (if_neg (by simp [h1])).trans (if_pos h2), fun h1 h2 => (if_neg (by simp [h1])).trans (if_neg h2)⟩
  have HC : Hid (countsS (rowRes t p).1.kids ≤ 900000) := rowRes_count t p hv hok hct
  generalize itemsR t p x y = res at *
  generalize rowRes t p = r at *
  obtain ⟨tk, tx, tc, ts⟩ := t
  obtain ⟨⟨rk, rx, rc, rs⟩, er⟩ := r
  simp only [Tree.kind, Tree.text, Tree.cols, Tree.kids] at *
  clear hv hok hct hp
  generalize hW0 : (w.alloc (Obj.cells #[.int .i64 tk, .string tx, .int .i64 tc, .slice A ts.length cap] 24)).alloc (.cells #[.slice Ap p.length cp, .int .i64 x, .int .i64 y] 29) = W0
  have KB : Hid (∀ W, Below W0.heap.size W0 W → (W.cell? ⟨w.heap.size, 0, none⟩ = some (.int .i64 tk) ∧ W.cell? ⟨w.heap.size, 1, none⟩ = some (.string tx) ∧ W.cell? ⟨w.heap.size, 2, none⟩ = some (.int .i64 tc) ∧ W.cell? ⟨w.heap.size, 3, none⟩ = some (.slice A ts.length cap)) ∧
      (W.cell? ⟨w.heap.size + 1, 0, none⟩ = some (.slice Ap p.length cp) ∧ W.cell? ⟨w.heap.size + 1, 1, none⟩ = some (.int .i64 x) ∧ W.cell? ⟨w.heap.size + 1, 2, none⟩ = some (.int .i64 y)) ∧ Below w.heap.size w W) := by
    intro W hW
    have hz : W0.heap.size = w.heap.size + 1 + 1 := by rw [← hW0]; simp
    have hc := (bcell hW).1
    have hbb : Below w.heap.size w W0 := by rw [← hW0]; exact bl_alloc (below_allocR' _ _) _
    refine ⟨⟨(hc _ _ (by omega)).trans ?_, (hc _ _ (by omega)).trans ?_, (hc _ _ (by omega)).trans ?_, (hc _ _ (by omega)).trans ?_⟩, ⟨(hc _ _ (by omega)).trans ?_, (hc _ _ (by omega)).trans ?_, (hc _ _ (by omega)).trans ?_⟩, hbb.trans (hW.mono hbb.size)⟩
    all_goals (rw [← hW0]; first | exact na2_c _ _ _ _ _ _ rfl | exact na_c _ _ _ _ _ (by simp))
  obtain ⟨⟨m0, m1, m2, m3⟩, ⟨c0, c1, c2⟩, hbw0⟩ := KB.out W0 (Below.refl _ _)
  have HBW0 := hid hbw0
  clear hbw0
  go_enter Try.func28, Try.ntmps28
  go_wp2_with fail
  refine (C1.out _ HBW0.out).mono ?_
  intro e w1 h1
  obtain ⟨v1, rfl, hr1, hb1⟩ : ∃ v, e = .returned (.tuple #[.agg #[.int .i64 rk, .string rx, .int .i64 rc, v], .int .i64 er]) ∧ SliceR treeE w1 (Lt w1.heap.size) rs v ∧ Below W0.heap.size W0 w1 := h1
  obtain ⟨A1, n1, rfl⟩ := hr1.form
  have HI1 := hid hr1
  have HB1 := hid hb1
  clear m0 m1 m2 m3 c0 c1 c2 hr1 hb1
  rcases Decidable.em (er = 0) with he | he
  case inr =>
    have HE := hid he
    have i0 : (er != 0) = true := by simpa using he
    go_wp2_with fail
    refine bodyPost_ret (v := .tuple #[.slice none 0 0, .int .i64 er]) (by simp [results, Try.results28, go_sem]) rfl ?_
    rw [HR.out.1 HE.out]
    exact ⟨_, rfl, SliceR.nil_ 0 (Nat.zero_le _) none, bl_alloc (KB.out w1 HB1.out).2.2 _⟩
  subst he
  go_upto_region 4 with fail
  obtain ⟨X, hX⟩ : ∃ X, w1.alloc (Obj.cells #[.int .i64 rk, .string rx, .int .i64 rc, .slice A1 rs.length n1] 24) = X := ⟨_, rfl⟩
  rw [hX]
  have HXB : Hid (Below w1.heap.size w1 X) := by show Below _ _ _; rw [← hX]; exact below_allocR' _ _
  obtain ⟨_, ⟨_, b1, b2⟩, hbw⟩ := KB.out X (HB1.out.trans (HXB.out.mono HB1.out.size))
  have n3 : X.cell? ⟨w1.heap.size, 3, none⟩ = some (.slice A1 rs.length n1) := by rw [← hX]; exact na_c _ _ _ _ _ rfl
  have HBW := hid hbw
  have HIX := hid (HI1.out.below HXB.out HXB.out.size)
  clear hbw hX
  have hn1 : rs.length ≤ n1 := by obtain ⟨_, _, _, hq, h1, _⟩ := HI1.out; cases hq; exact h1
  rcases Int.lt_or_le x 0 with h0 | h0
  · have i0 : decide (x < 0) = true := by simpa using h0
    have HH := hid h0
    clear h0
    go_wp2_with fail
    refine bodyPost_ret (v := .tuple #[.slice none 0 0, .int .i64 2]) (by simp [results, Try.results28, go_sem]) rfl ?_
    rw [HR.out.2.1 trivial (Or.inl HH.out)]
    exact ⟨_, rfl, SliceR.nil_ 0 (Nat.zero_le _) none, HBW.out⟩
  have i0 : decide (x < 0) = false := by simpa using h0
  rcases Int.lt_or_le y x with h1 | h1
  · have i1 : decide (y < x) = true := by simpa using h1
    have HH := hid h1
    clear h1 h0
    go_wp2_with fail
    refine bodyPost_ret (v := .tuple #[.slice none 0 0, .int .i64 2]) (by simp [results, Try.results28, go_sem]) rfl ?_
    rw [HR.out.2.1 trivial (Or.inr (Or.inl HH.out))]
    exact ⟨_, rfl, SliceR.nil_ 0 (Nat.zero_le _) none, HBW.out⟩
  have i1 : decide (y < x) = false := by simpa using h1
  rcases Int.lt_or_le rs.length y with h2 | h2
  · have i2 : decide ((rs.length : Int) < y) = true := by simpa using h2
    have HH := hid h2
    clear h1 h0 h2
    go_wp2_with fail
    refine bodyPost_ret (v := .tuple #[.slice none 0 0, .int .i64 2]) (by simp [results, Try.results28, go_sem]) rfl ?_
    rw [HR.out.2.1 trivial (Or.inr (Or.inr HH.out))]
    exact ⟨_, rfl, SliceR.nil_ 0 (Nat.zero_le _) none, HBW.out⟩
  have i2 : decide ((rs.length : Int) < y) = false := by simpa using h2
  obtain ⟨x', hx'⟩ : ∃ x' : Nat, x = x' := ⟨x.toNat, by omega⟩
  obtain ⟨y', hy'⟩ : ∃ y' : Nat, y = y' := ⟨y.toNat, by omega⟩
  obtain ⟨A2, hsl, hcut⟩ := cut_lh treeE Try.underlying22 size_node A1 rs.length n1 x y x' y' hx' hy' (by omega) (by omega) hn1
  have HCU := hid (hcut _ _ _ HIX.out)
  have HRES : Hid (res = ((rs.take y').drop x', 0)) := by
    have h := HR.out.2.2 trivial (by show ¬ (x < 0 ∨ y < x ∨ (rs.length : Int) < y); omega)
    rw [hx', hy', Int.toNat_natCast, Int.toNat_natCast] at h
    exact h
  have hlen : Hid (((rs.take y').drop x').length = y' - x') := by show _ = _; simp; omega
  have hcnt : Hid (countsS ((rs.take y').drop x') ≤ 900000) := by
    have h1 := countsS_drop_le (rs.take y') x'
    have h2 := countsS_take_le rs y'
    have h3 := HC.out
    show _ ≤ _
    omega
  clear hcut h0 h1 h2 HR hx' hy'
  go_wp2_with fail
  refine (deepNodes_any _ _ _ HCU.out (Nat.le_trans hcnt.out (by omega))).mono ?_
  generalize (rs.take y').drop x' = L at *
  rintro e w2 ⟨v2, rfl, ho2, hb2⟩
  obtain ⟨A3, n3', rfl⟩ := ho2.form
  have HO2 := hid ho2
  have HB2 := hid hb2
  clear ho2 hb2
  go_wp2_with fail
  refine bodyPost_ret (v := .tuple #[.slice A3 L.length n3', .int .i64 0]) (by simp [results, Try.results28, go_sem]) rfl ?_
  rw [HRES.out]
  exact ⟨_, rfl, HO2.out.rowsLt, HBW.out.trans (HB2.out.mono HBW.out.size)⟩
end Go.Proofs.Ytognlokeadlpbaa
