/- ref13: Map inside an item of the row. -/
import Derived.Test.YteckkamlaibjbaaRef13Mv
import Derived.Test.YteckkamlaibjbaaRef13I
set_option linter.unusedVariables false
set_option linter.unusedSimpArgs false
namespace Go.Proofs.Yteckkamlaibjbaa
open Go.RowKit

set_option maxHeartbeats 2000000 in
set_option maxRecDepth 100000 in
theorem refmap_deep (op : OpD) (pos : List Int) (after : Bool) (Ar An Ap : Option Addr) (cr cn cp : Nat) (w : World) (hop : op.Ok) (hr : IntsR w (Lt w.heap.size) op.row (.slice Ar op.row.length cr)) (hpos : IntsR w (Lt w.heap.size) pos (.slice Ap pos.length cp)) (hpl : pos.length ≤ 100000)
    (hb : ∀ x ∈ pos, Bd 1152921504606846976 x) (hw : withinS pos op.row = true) (hlen : op.row.length + 2 < pos.length) (x y : Int) (hx : pos[op.row.length]? = some x) (hy : pos[op.row.length + 1]? = some y) :
    Calls Try.prog 23 #[.agg (opC op (.slice Ar op.row.length cr) (.slice An op.nodes.length cn)), .slice Ap pos.length cp, .bool after] w (IntsPost w (op.row ++ insideS op x y (pos.drop (op.row.length + 2)))) := by
  have hrl := hop.row
  have HW : Hid (∀ W, Below w.heap.size w W → Calls Try.prog 43 #[.slice Ap pos.length cp, .slice Ar op.row.length cr] W fun e w' => e = .returned (.bool true) ∧ ∃ n, w' = W.drewN n) := by
    intro W hW
    have := within_q pos op.row W _ _ _ _ (hpos.below hW (Nat.le_refl _)) (hr.below hW (Nat.le_refl _)) (by omega)
    rw [hw] at this
    exact this
  obtain ⟨A2, hsl2, hcut2⟩ := cut_l intE Try.underlying25 size_int Ap pos.length cp ((op.row.length : Int) + 2) (op.row.length + 2) (by omega) (by omega)
  have HC2 := hid (hcut2 _ _ _ hpos)
  have HO : Hid (∀ W, Below w.heap.size w W → Calls Try.prog 45 #[.agg (opC op (.slice Ar op.row.length cr) (.slice An op.nodes.length cn)), .int .i64 x, .int .i64 y, .slice A2 (pos.length - (op.row.length + 2)) (cp - (op.row.length + 2))] W (IntsPost W (insideS op x y (pos.drop (op.row.length + 2))))) := by
    intro W hW
    have h := inside_any op x y (pos.drop (op.row.length + 2)) Ar An A2 op.row.length cr cn (cp - (op.row.length + 2)) W hop (hb x (List.mem_of_getElem? hx)) (hb y (List.mem_of_getElem? hy)) (fun z hz => hb z (List.mem_of_mem_drop hz)) (by simp; omega) (by simp; omega)
      (by rw [List.length_drop]; exact HC2.out.below hW hW.size)
    rw [List.length_drop] at h
    exact h
  have HR : Hid (∀ W, Below w.heap.size w W → IntsR W (Lt w.heap.size) op.row (.slice Ar op.row.length cr)) := fun W hW => hr.below hW (Nat.le_refl _)
  have hol : (insideS op x y (pos.drop (op.row.length + 2))).length ≤ 200000 := by
    have hdl : (pos.drop (op.row.length + 2)).length ≤ 100000 := by simp; omega
    generalize pos.drop (op.row.length + 2) = d at *
    unfold insideS; (repeat' split) <;> simp <;> omega
  obtain ⟨A, cap, rs, e, h1, h2, hrd, hls⟩ := hpos
  injection e with q1 q2 q3
  subst q1 q3
  have hlt : op.row.length < pos.length := by omega
  have hlt1 : op.row.length + 1 < pos.length := by omega
  obtain ⟨g, o, rfl, hg, hi, c0⟩ := ints_at hrd hls hlt
  obtain ⟨g', o', e', hgg, hi', c1⟩ := ints_at hrd hls hlt1
  injection e' with e'
  injection e' with e1' e2'
  subst e1' e2'
  obtain rfl : pos[op.row.length] = x := by rw [List.getElem?_eq_getElem hlt] at hx; exact Option.some.inj hx
  obtain rfl : pos[op.row.length + 1] = y := by rw [List.getElem?_eq_getElem hlt1] at hy; exact Option.some.inj hy
  have hg' : g < w.heap.size := hg
  generalize hofs : insideS op pos[op.row.length] pos[op.row.length + 1] (pos.drop (op.row.length + 2)) = ofs at *
  generalize hxx : pos[op.row.length] = x at *
  generalize hyy : pos[op.row.length + 1] = y at *
  obtain ⟨kind, row, at_, n, nodes, slot, old, text⟩ := op
  simp only [opC] at *
  have e1 : ((pos.length : Int) == (row.length : Int) + 1) = false := by simp; omega
  have hr2 : (row.length : Int) < (pos.length : Int) := by omega
  have hw1 : IntKind.i64.wrap ((row.length : Int) + 2) = (row.length : Int) + 2 := IntWalk.i64_in _ (by omega)
  have hw2 : IntKind.i64.wrap ((row.length : Int) + 1) = (row.length : Int) + 1 := IntWalk.i64_in _ (by omega)
  have ht1 : ((row.length : Int) + 1).toNat = row.length + 1 := by omega
  have hp1 : (0 : Int) ≤ (row.length : Int) + 1 := by omega
  have hp2 : (row.length : Int) + 1 < (pos.length : Int) := by omega
  clear hop hr hw hrd hls q2 hg hi hb hofs hxx hyy hlen hx hy h1 h2 hcut2 hgg hi'
  go_enter Try.func23, Try.ntmps23
  go_wp2_with fail
  refine (HW.out _ (below_alloc _ _)).mono ?_
  rintro e w1 ⟨rfl, nq, rfl⟩
  rw [drewN_alloc]
  generalize hw0 : w.drewN nq = w0
  have hz0 : w.heap.size = w0.heap.size := by rw [← hw0]; rfl
  have HB : Hid (Below w.heap.size w w0) := by rw [← hw0]; exact below_drewN _ _
  have d0 : w0.cell? ⟨g, o + row.length, none⟩ = some (.int .i64 x) := by rw [← hw0]; exact c0
  have d1 : w0.cell? ⟨g, o + (row.length + 1), none⟩ = some (.int .i64 y) := by rw [← hw0]; exact c1
  rw [hz0] at hg'
  rw [hz0]
  clear hw0 hz0 c0 c1
  obtain ⟨o1, ho1⟩ : ∃ o1, o1 = Obj.cells #[.int .i64 kind, .slice Ar row.length cr, .int .i64 at_, .int .i64 n, .slice An nodes.length cn, .int .i64 slot, .string old, .string text] 27 := ⟨_, rfl⟩
  have HBa : Hid (Below w.heap.size w (w0.alloc o1)) := HB.out.trans ((below_alloc _ _).mono HB.out.size)
  have HBb : Hid (Below w.heap.size w ((w0.alloc o1).alloc (.cells #[] 3))) := HBa.out.trans ((below_alloc _ _).mono HBa.out.size)
  have HBc : Hid (Below (w0.heap.size + 1) (w0.alloc o1) ((w0.alloc o1).alloc (.cells #[] 3))) := (below_alloc _ _).mono (by simp)
  rw [ho1] at HBa HBb HBc
  clear ho1 o1
  go_wp2_with (at_builtin; refine app_ints rfl (.tmp 20) (.tmp 22) rfl (w0.heap.size + 1) _ [] row rfl (owns_lit _ _ [] (by simp) 0 _ rfl (by simp) (by simp) _ rfl (by simp)) _ _ _ _ rfl (HR.out _ HBb.out) (by simp; omega) (by simp) ?_; intro v1 w2 hown1 hb1 _)
  have ho1 : Owns w2 (w0.heap.size + 1) row v1 := by simpa using hown1
  have HO1 := hid ho1
  have hbx := HBc.out.trans hb1
  have HX := hid hbx
  have hcx := (bcell hbx).1
  have m0 : w2.cell? ⟨w0.heap.size, 0, none⟩ = some (.int .i64 kind) := (hcx w0.heap.size 0 (by omega)).trans (by rw [World.cell?_alloc_new]; rfl)
  have m1 : w2.cell? ⟨w0.heap.size, 1, none⟩ = some (.slice Ar row.length cr) := (hcx w0.heap.size 1 (by omega)).trans (by rw [World.cell?_alloc_new]; rfl)
  have m2 : w2.cell? ⟨w0.heap.size, 2, none⟩ = some (.int .i64 at_) := (hcx w0.heap.size 2 (by omega)).trans (by rw [World.cell?_alloc_new]; rfl)
  have m3 : w2.cell? ⟨w0.heap.size, 3, none⟩ = some (.int .i64 n) := (hcx w0.heap.size 3 (by omega)).trans (by rw [World.cell?_alloc_new]; rfl)
  have m4 : w2.cell? ⟨w0.heap.size, 4, none⟩ = some (.slice An nodes.length cn) := (hcx w0.heap.size 4 (by omega)).trans (by rw [World.cell?_alloc_new]; rfl)
  have m5 : w2.cell? ⟨w0.heap.size, 5, none⟩ = some (.int .i64 slot) := (hcx w0.heap.size 5 (by omega)).trans (by rw [World.cell?_alloc_new]; rfl)
  have m6 : w2.cell? ⟨w0.heap.size, 6, none⟩ = some (.string old) := (hcx w0.heap.size 6 (by omega)).trans (by rw [World.cell?_alloc_new]; rfl)
  have m7 : w2.cell? ⟨w0.heap.size, 7, none⟩ = some (.string text) := (hcx w0.heap.size 7 (by omega)).trans (by rw [World.cell?_alloc_new]; rfl)
  have m8 : w2.cell? ⟨g, o + row.length, none⟩ = some (.int .i64 x) := (hcx g (o + row.length) (by omega)).trans ((World.cell?_alloc_lt _ _ _ hg').trans d0)
  have m9 : w2.cell? ⟨g, o + (row.length + 1), none⟩ = some (.int .i64 y) := (hcx g (o + (row.length + 1)) (by omega)).trans ((World.cell?_alloc_lt _ _ _ hg').trans d1)
  have HBw : Hid (Below w.heap.size w w2) := HBb.out.trans (hb1.mono (by have := HB.out.size; omega))
  clear hown1 ho1 hbx hcx hb1 d0 d1 HBa HBb HBc
  have z2 : w0.heap.size < w2.heap.size := by have := HX.out.size; simp at this; omega
  have KEEP : Hid (∀ w3, Below w2.heap.size w2 w3 → (∀ j u, w2.cell? ⟨w0.heap.size, j, none⟩ = some u → w3.cell? ⟨w0.heap.size, j, none⟩ = some u) ∧ (∀ j u, w2.cell? ⟨g, j, none⟩ = some u → w3.cell? ⟨g, j, none⟩ = some u)) :=
    fun w3 h => ⟨fun j u hu => ((bcell h).1 _ _ z2).trans hu, fun j u hu => ((bcell h).1 _ _ (by omega)).trans hu⟩
  have KEEP2 : Hid (∀ w3 w4, Below w2.heap.size w2 w3 → Below (w0.heap.size + 1) w3 w4 → (∀ j u, w2.cell? ⟨w0.heap.size, j, none⟩ = some u → w4.cell? ⟨w0.heap.size, j, none⟩ = some u) ∧ (∀ j u, w2.cell? ⟨g, j, none⟩ = some u → w4.cell? ⟨g, j, none⟩ = some u)) :=
    fun w3 w4 h h' => ⟨fun j u hu => ((bcell h').1 _ _ (by omega)).trans ((KEEP.out w3 h).1 j u hu), fun j u hu => ((bcell h').1 _ _ (by omega)).trans ((KEEP.out w3 h).2 j u hu)⟩
  obtain ⟨Av, cv, hv1⟩ := (HO1.out.ints (S := fun _ => True) (fun _ _ _ => trivial)).form
  subst hv1
  go_region_held3 (fun w' => w'.cell? ⟨w0.heap.size, 0, none⟩ = some (.int .i64 kind) ∧ w'.cell? ⟨w0.heap.size, 1, none⟩ = some (.slice Ar row.length cr) ∧ w'.cell? ⟨w0.heap.size, 2, none⟩ = some (.int .i64 at_) ∧ w'.cell? ⟨w0.heap.size, 3, none⟩ = some (.int .i64 n) ∧ w'.cell? ⟨w0.heap.size, 4, none⟩ = some (.slice An nodes.length cn) ∧ w'.cell? ⟨w0.heap.size, 5, none⟩ = some (.int .i64 slot) ∧ w'.cell? ⟨w0.heap.size, 6, none⟩ = some (.string old) ∧ w'.cell? ⟨w0.heap.size, 7, none⟩ = some (.string text) ∧ w'.cell? ⟨g, o + row.length, none⟩ = some (.int .i64 x) ∧ w'.cell? ⟨g, o + (row.length + 1), none⟩ = some (.int .i64 y)) (go_keep) (first | (go_at_call 45; refine (HO.out _ HBw.out.drew).mono ?_; rintro e w3 ⟨v3, rfl, hi3, hb3⟩; obtain ⟨A3, c3, rfl⟩ := hi3.form; have hb3' := below_of_drew hb3; have HI3 := hid hi3; have HB3 := hid hb3'; have HO3 := hid (HO1.out.below hb3'); have k0 := (KEEP.out w3 hb3').1 0 _ m0; have k1 := (KEEP.out w3 hb3').1 1 _ m1; have k2 := (KEEP.out w3 hb3').1 2 _ m2; have k3 := (KEEP.out w3 hb3').1 3 _ m3; have k4 := (KEEP.out w3 hb3').1 4 _ m4; have k5 := (KEEP.out w3 hb3').1 5 _ m5; have k6 := (KEEP.out w3 hb3').1 6 _ m6; have k7 := (KEEP.out w3 hb3').1 7 _ m7; have k8 := (KEEP.out w3 hb3').2 _ _ m8; have k9 := (KEEP.out w3 hb3').2 _ _ m9; clear hi3 hb3 hb3') | (refine step_app_ints (by rfl) (.tmp 38) (.tmp 53) (by rfl) (w0.heap.size + 1) _ row ofs (by rfl) HO3.out _ _ _ _ (by rfl) HI3.out (by omega) (by have := HB3.out.size; omega) ?_; intro v4 w4 hown4 hb4 _; have k0 := (KEEP2.out w3 w4 HB3.out hb4).1 0 _ m0; have k1 := (KEEP2.out w3 w4 HB3.out hb4).1 1 _ m1; have k2 := (KEEP2.out w3 w4 HB3.out hb4).1 2 _ m2; have k3 := (KEEP2.out w3 w4 HB3.out hb4).1 3 _ m3; have k4 := (KEEP2.out w3 w4 HB3.out hb4).1 4 _ m4; have k5 := (KEEP2.out w3 w4 HB3.out hb4).1 5 _ m5; have k6 := (KEEP2.out w3 w4 HB3.out hb4).1 6 _ m6; have k7 := (KEEP2.out w3 w4 HB3.out hb4).1 7 _ m7; have k8 := (KEEP2.out w3 w4 HB3.out hb4).2 _ _ m8; have k9 := (KEEP2.out w3 w4 HB3.out hb4).2 _ _ m9))
  have HO4 := hid hown4
  have HB4 : Hid (Below w.heap.size w w4) := (HBw.out.trans (HB3.out.mono HBw.out.size)).trans (hb4.mono (by have := HB.out.size; omega))
  clear hown4 hb4
  go_wp2_with fail
  go_ret
  exact ⟨_, rfl, HO4.out.ints (fun _ _ h => h), HB4.out⟩

def refMapS (op : OpD) (pos : List Int) (after : Bool) : List Int :=
  if withinS pos op.row = true then
    (if pos.length = op.row.length + 1 then op.row ++ offsetS op (pos.getD op.row.length 0) after else op.row ++ insideS op (pos.getD op.row.length 0) (pos.getD (op.row.length + 1) 0) (pos.drop (op.row.length + 2)))
  else pos

theorem refmap_any (op : OpD) (pos : List Int) (after : Bool) (Ar An Ap : Option Addr) (cr cn cp : Nat) (w : World) (hop : op.Ok) (hr : IntsR w (Lt w.heap.size) op.row (.slice Ar op.row.length cr)) (hpos : IntsR w (Lt w.heap.size) pos (.slice Ap pos.length cp)) (hpl : pos.length ≤ 100000)
    (hb : ∀ x ∈ pos, Bd 1152921504606846976 x) :
    Calls Try.prog 23 #[.agg (opC op (.slice Ar op.row.length cr) (.slice An op.nodes.length cn)), .slice Ap pos.length cp, .bool after] w (IntsPost w (refMapS op pos after)) := by
  unfold refMapS
  split
  · rename_i hw
    have hw' := hw
    unfold withinS at hw'
    simp only [decide_eq_true_eq] at hw'
    obtain ⟨h1, h2, h3⟩ := hw'
    have hx : pos[op.row.length]? = some (pos.getD op.row.length 0) := by rw [List.getD_eq_getElem?_getD, List.getElem?_eq_getElem h1]; rfl
    split
    · rename_i h
      exact refmap_flat op pos after Ar An Ap cr cn cp w hop hr hpos hpl hb hw h _ hx
    · rename_i h
      have hy : pos[op.row.length + 1]? = some (pos.getD (op.row.length + 1) 0) := by rw [List.getD_eq_getElem?_getD, List.getElem?_eq_getElem (by omega)]; rfl
      exact refmap_deep op pos after Ar An Ap cr cn cp w hop hr hpos hpl hb hw (by omega) _ _ hx hy
  · rename_i h
    exact refmap_no op pos after Ar An Ap cr cn cp w hop hr hpos hpl (by simpa using h)
end Go.Proofs.Yteckkamlaibjbaa
