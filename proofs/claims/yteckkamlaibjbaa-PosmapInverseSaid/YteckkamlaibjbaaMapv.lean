/- posmap: Map, Lost. -/
import Derived.Test.YteckkamlaibjbaaPosmap
import Derived.Test.YteckkamlaibjbaaGQ
set_option linter.unusedVariables false
set_option linter.unusedSimpArgs false
namespace Go.Proofs.Yteckkamlaibjbaa
open Go.RowKit

theorem within_iff {pos row : List Int} : withinS pos row = true ↔ row.length < pos.length ∧ pos.take row.length = row ∧ pos.length ≠ row.length + 2 := by
  unfold withinS; simp only [decide_eq_true_eq]

theorem cut_yes (op : OpD) (pos : List Int) (Ar An Ap : Option Addr) (cr cn cp : Nat) (w : World) (hop : op.Ok) (hr : IntsR w (Lt w.heap.size) op.row (.slice Ar op.row.length cr)) (hpos : IntsR w (Lt w.heap.size) pos (.slice Ap pos.length cp)) (hpl : pos.length ≤ 100000)
    (hw : withinS pos op.row = true) :
    Calls Try.prog 37 #[.agg (opC op (.slice Ar op.row.length cr) (.slice An op.nodes.length cn)), .slice Ap pos.length cp] w
      (CutYes op (placeOf op pos) (.slice Ar op.row.length cr) (.slice An op.nodes.length cn) w) := by
  obtain ⟨h1, h2, h3⟩ := within_iff.1 hw
  unfold placeOf
  split
  · rename_i h
    have hx : pos[op.row.length]? = some (pos.getD op.row.length 0) := by rw [List.getD_eq_getElem?_getD, List.getElem?_eq_getElem h1]; rfl
    have hy : pos[op.row.length + 1]? = some (pos.getD (op.row.length + 1) 0) := by rw [List.getD_eq_getElem?_getD, List.getElem?_eq_getElem h]; rfl
    exact cut_deep op pos Ar An Ap cr cn cp w hop hr hpos hpl hw (by omega) _ _ hx hy
  · rename_i h
    have hx : pos[op.row.length]? = some (pos.getD op.row.length 0) := by rw [List.getD_eq_getElem?_getD, List.getElem?_eq_getElem h1]; rfl
    exact cut_flat op pos Ar An Ap cr cn cp w hop hr hpos hpl hw (by omega) _ hx

theorem getD_bd {M : Int} {l : List Int} (hM : 0 ≤ M) (h : ∀ x ∈ l, Bd M x) (k : Nat) : Bd M (l.getD k 0) := by
  rw [List.getD_eq_getElem?_getD]
  cases e : l[k]? with
  | none => exact ⟨by simp; omega, by simpa using hM⟩
  | some x => exact h x (List.mem_of_getElem? e)

theorem placeOf_ok (op : OpD) (pos : List Int) (hop : op.Ok) (hb : ∀ x ∈ pos, Bd 1152921504606846976 x) (hpl : pos.length ≤ 100000) (hw : withinS pos op.row = true) : (placeOf op pos).Ok := by
  obtain ⟨h1, h2, h3⟩ := within_iff.1 hw
  unfold placeOf
  split
  · rename_i h
    exact ⟨hop.at_, hop.n, hop.slot, hop.nodes, getD_bd (by omega) hb _, getD_bd (by omega) hb _, fun x hx => hb x (List.mem_of_mem_drop hx), by simp; omega, fun _ => by simp; omega⟩
  · exact ⟨hop.at_, hop.n, hop.slot, hop.nodes, getD_bd (by omega) hb _, ⟨by simp, by simp⟩, by simp, by simp, fun h => by simp at h⟩

def mapS (op : OpD) (pos : List Int) (after : Bool) : List Int :=
  if withinS pos op.row = true then op.row ++ (imageS (placeOf op pos) after).1 else pos
def lostS (op : OpD) (pos : List Int) : Bool :=
  if withinS pos op.row = true then (imageS (placeOf op pos) false).2 else false

theorem imageS_len (p : PlaceD) (after : Bool) (hp : p.Ok) : (imageS p after).1.length ≤ 200000 := by
  have hb : ∀ l : List Int, l.length ≤ 3 → (behindS p l).length ≤ 200000 := by
    intro l hl
    have := hp.len
    unfold behindS
    split
    · simp; omega
    · omega
  have hr := hp.len
  unfold imageS insertS removeS wrapS unwrapS
  repeat' split
  all_goals first | (apply hb; simp; done) | (simp; done) | (simp; omega)

/-- An operation as an argument. -/
structure OpArg (w : World) (op : OpD) (Ar An : Option Addr) (cr cn : Nat) : Prop where
  row : IntsR w (Lt w.heap.size) op.row (.slice Ar op.row.length cr)
  nodes : TreesS w (Lt w.heap.size) op.nodes (.slice An op.nodes.length cn)

set_option maxHeartbeats 2000000 in
theorem map_no (op : OpD) (pos : List Int) (after : Bool) (Ar An Ap : Option Addr) (cr cn cp : Nat) (w : World) (hop : op.Ok) (hr : IntsR w (Lt w.heap.size) op.row (.slice Ar op.row.length cr)) (hpos : IntsR w (Lt w.heap.size) pos (.slice Ap pos.length cp)) (hpl : pos.length ≤ 100000)
    (hw : withinS pos op.row = false) :
    Calls Try.prog 14 #[.agg (opC op (.slice Ar op.row.length cr) (.slice An op.nodes.length cn)), .slice Ap pos.length cp, .bool after] w (IntsPost w pos) := by
  obtain ⟨o1, ho1⟩ : ∃ o, o = Obj.cells (opC op (.slice Ar op.row.length cr) (.slice An op.nodes.length cn)) 27 := ⟨_, rfl⟩
  have HC := hid (cut_no op pos (.slice Ar op.row.length cr) (.slice An op.nodes.length cn) (.slice Ap pos.length cp) Ar An Ap cr cn cp (w.alloc o1) hop (hr.alloc o1) (hpos.alloc o1) hpl hw)
  have HL : Hid (∀ W, Below w.heap.size w W → Calls Try.prog 38 #[.slice Ap pos.length cp] W (OwnPost W pos)) := fun W hW => clone_any pos W _ (hpos.below hW hW.size) (by omega)
  rw [ho1] at HC
  have HB : Hid (Below w.heap.size w (w.alloc (Obj.cells (opC op (.slice Ar op.row.length cr) (.slice An op.nodes.length cn)) 27))) := below_alloc _ _
  clear ho1 hop hr hpos hpl hw o1
  obtain ⟨kind, row, at_, n, nodes, slot, old, text⟩ := op
  simp only [opC] at *
  go_enter Try.func14, Try.ntmps14
  go_wp2_with fail
  with_reducible refine HC.out.mono ?_
  rintro e w1 ⟨rfl, hb1⟩
  have HB1 : Hid (Below w.heap.size w w1) := HB.out.trans (hb1.mono HB.out.size)
  clear hb1
  go_wp2_with fail
  refine (HL.out _ (HB1.out.trans ((below_alloc _ _).mono HB1.out.size))).mono ?_
  rintro e w2 ⟨v2, rfl, hown2, hb2⟩
  have HO := hid hown2
  have HB2 := hid hb2
  clear hown2 hb2
  go_wp2_with fail
  go_ret
  have h3 := HB1.out.trans ((below_alloc w1 (Obj.cells zeroPlace 65)).mono HB1.out.size)
  exact ⟨_, rfl, HO.out.ints (fun _ _ h => h), h3.trans (HB2.out.mono h3.size)⟩

set_option maxHeartbeats 2000000 in
theorem map_yes (op : OpD) (pos : List Int) (after : Bool) (Ar An Ap : Option Addr) (cr cn cp : Nat) (w : World) (hop : op.Ok) (hr : IntsR w (Lt w.heap.size) op.row (.slice Ar op.row.length cr)) (hpos : IntsR w (Lt w.heap.size) pos (.slice Ap pos.length cp)) (hpl : pos.length ≤ 100000)
    (hb : ∀ x ∈ pos, Bd 1152921504606846976 x) (hw : withinS pos op.row = true) :
    Calls Try.prog 14 #[.agg (opC op (.slice Ar op.row.length cr) (.slice An op.nodes.length cn)), .slice Ap pos.length cp, .bool after] w (IntsPost w (op.row ++ (imageS (placeOf op pos) after).1)) := by
  have hok := placeOf_ok op pos hop hb hpl hw
  have hop' : (placeOf op pos).op = op := by unfold placeOf; split <;> rfl
  obtain ⟨o1, ho1⟩ : ∃ o, o = Obj.cells (opC op (.slice Ar op.row.length cr) (.slice An op.nodes.length cn)) 27 := ⟨_, rfl⟩
  have hlen := imageS_len (placeOf op pos) after hok
  have HC := hid (cut_yes op pos Ar An Ap cr cn cp (w.alloc o1) hop (hr.alloc o1) (hpos.alloc o1) hpl hw)
  have HI : Hid (∀ W As cs, IntsR W (Lt W.heap.size) (placeOf op pos).rest (.slice As (placeOf op pos).rest.length cs) → Calls Try.prog 39 #[.agg (placeC (placeOf op pos) (.slice Ar op.row.length cr) (.slice An op.nodes.length cn) (.slice As (placeOf op pos).rest.length cs)), .bool after] W (PairPost W (imageS (placeOf op pos) after))) :=
    fun W As cs h => image_any (placeOf op pos) after Ar An As op.row.length cr op.nodes.length cn cs W hok h
  have HR : Hid (∀ W, Below w.heap.size w W → IntsR W (Lt w.heap.size) op.row (.slice Ar op.row.length cr)) := fun W hW => hr.below hW (Nat.le_refl _)
  rw [ho1] at HC
  have HB : Hid (Below w.heap.size w (w.alloc (Obj.cells (opC op (.slice Ar op.row.length cr) (.slice An op.nodes.length cn)) 27))) := below_alloc _ _
  have hrl := hop.row
  generalize imageS (placeOf op pos) after = im at *
  generalize placeOf op pos = p at *
  clear ho1 hop hr hpos hpl hw o1 hok hb
  obtain ⟨kind, row, at_, n, nodes, slot, old, text⟩ := op
  obtain ⟨pop, k, index, inside, pslot, rest⟩ := p
  obtain rfl : pop = _ := hop'
  simp only [opC, placeC] at *
  go_enter Try.func14, Try.ntmps14
  go_wp2_with fail
  with_reducible refine HC.out.mono ?_
  rintro e w1 ⟨As, cs, rfl, hs1, hb1⟩
  have HB1 : Hid (Below w.heap.size w w1) := HB.out.trans (hb1.mono HB.out.size)
  have HS := hid hs1
  have q1 : w1.cell? ⟨w.heap.size, 1, none⟩ = some (.slice Ar row.length cr) := ((bcell hb1).1 w.heap.size 1 (by simp)).trans (by rw [World.cell?_alloc_new]; rfl)
  have z1 : w.heap.size < w1.heap.size := by have := hb1.size; simp at this; omega
  clear hb1 hs1 HC
  go_wp2_with fail
  refine (HI.out _ As cs (HS.out.alloc _)).mono ?_
  rintro e w2 ⟨v2, rfl, hs2, hb2⟩
  have HS2 := hid hs2
  have HB2 : Hid (Below w.heap.size w w2) := (HB1.out.trans ((below_alloc _ _).mono HB1.out.size)).trans (hb2.mono (by have := HB1.out.size; simp; omega))
  have q2 : w2.cell? ⟨w.heap.size, 1, none⟩ = some (.slice Ar row.length cr) := ((bcell hb2).1 w.heap.size 1 (by simp; omega)).trans ((World.cell?_alloc_lt _ _ _ z1).trans q1)
  have z2 : w.heap.size < w2.heap.size := by have := hb2.size; simp at this; omega
  obtain ⟨A2, c2, rfl⟩ := hs2.form
  clear hb2 hs2 HI HS
  have HF : Hid ([row, im.1].flatten.length ≤ 1000000) := by show _ ≤ _; simp only [List.flatten_cons, List.flatten_nil, List.append_nil, List.length_append]; omega
  have HCC := hid (concat_any [row, im.1] (w2.alloc (.cells #[.slice Ar row.length cr, .slice A2 im.1.length c2] 25)) _ (rows2 ((HR.out _ HB2.out).keep (Same.refl _ _) (Lt.mono HB2.out.size)) HS2.out 25 rfl (fun _ h => h) w2.heap.size rfl) HF.out)
  go_wp2_with fail
  with_reducible refine HCC.out.mono ?_
  rintro e w3 ⟨v3, rfl, hs3, hb3⟩
  have HS3 := hid hs3
  have HB3 := hid hb3
  clear hs3 hb3
  go_wp2_with fail
  go_ret
  have h4 := HB2.out.trans ((below_alloc w2 (.cells #[.slice Ar row.length cr, .slice A2 im.1.length c2] 25)).mono HB2.out.size)
  exact ⟨_, rfl, by have h := HS3.out.ints (S := Lt w3.heap.size) (fun _ _ h => h); simpa using h, h4.trans (HB3.out.mono h4.size)⟩

theorem map_any (op : OpD) (pos : List Int) (after : Bool) (Ar An Ap : Option Addr) (cr cn cp : Nat) (w : World) (hop : op.Ok) (hr : IntsR w (Lt w.heap.size) op.row (.slice Ar op.row.length cr)) (hpos : IntsR w (Lt w.heap.size) pos (.slice Ap pos.length cp)) (hpl : pos.length ≤ 100000)
    (hb : ∀ x ∈ pos, Bd 1152921504606846976 x) :
    Calls Try.prog 14 #[.agg (opC op (.slice Ar op.row.length cr) (.slice An op.nodes.length cn)), .slice Ap pos.length cp, .bool after] w (IntsPost w (mapS op pos after)) := by
  unfold mapS
  split
  · rename_i h
    exact map_yes op pos after Ar An Ap cr cn cp w hop hr hpos hpl hb h
  · rename_i h
    exact map_no op pos after Ar An Ap cr cn cp w hop hr hpos hpl (by simpa using h)
set_option maxHeartbeats 2000000 in
theorem lost_any (op : OpD) (pos : List Int) (Ar An Ap : Option Addr) (cr cn cp : Nat) (w : World) (hop : op.Ok) (hr : IntsR w (Lt w.heap.size) op.row (.slice Ar op.row.length cr)) (hpos : IntsR w (Lt w.heap.size) pos (.slice Ap pos.length cp)) (hpl : pos.length ≤ 100000)
    (hb : ∀ x ∈ pos, Bd 1152921504606846976 x) :
    Calls Try.prog 24 #[.agg (opC op (.slice Ar op.row.length cr) (.slice An op.nodes.length cn)), .slice Ap pos.length cp] w fun e w' => e = .returned (.bool (lostS op pos)) ∧ Below w.heap.size w w' := by
  obtain ⟨o1, ho1⟩ : ∃ o, o = Obj.cells (opC op (.slice Ar op.row.length cr) (.slice An op.nodes.length cn)) 27 := ⟨_, rfl⟩
  by_cases hw : withinS pos op.row = true
  · have hok := placeOf_ok op pos hop hb hpl hw
    have hop' : (placeOf op pos).op = op := by unfold placeOf; split <;> rfl
    have HC := hid (cut_yes op pos Ar An Ap cr cn cp (w.alloc o1) hop (hr.alloc o1) (hpos.alloc o1) hpl hw)
    have HI : Hid (∀ W As cs, IntsR W (Lt W.heap.size) (placeOf op pos).rest (.slice As (placeOf op pos).rest.length cs) → Calls Try.prog 39 #[.agg (placeC (placeOf op pos) (.slice Ar op.row.length cr) (.slice An op.nodes.length cn) (.slice As (placeOf op pos).rest.length cs)), .bool false] W (PairPost W (imageS (placeOf op pos) false))) :=
      fun W As cs h => image_any (placeOf op pos) false Ar An As op.row.length cr op.nodes.length cn cs W hok h
    rw [ho1] at HC
    have HB : Hid (Below w.heap.size w (w.alloc (Obj.cells (opC op (.slice Ar op.row.length cr) (.slice An op.nodes.length cn)) 27))) := below_alloc _ _
    have HF : Hid (lostS op pos = (imageS (placeOf op pos) false).2) := by show _ = _; unfold lostS; rw [if_pos hw]
    generalize imageS (placeOf op pos) false = im at *
    generalize placeOf op pos = p at *
    clear ho1 hop hr hpos hpl hw o1 hok hb
    obtain ⟨kind, row, at_, n, nodes, slot, old, text⟩ := op
    obtain ⟨pop, k, index, inside, pslot, rest⟩ := p
    obtain rfl : pop = _ := hop'
    simp only [opC, placeC] at *
    go_enter Try.func24, Try.ntmps24
    go_wp2_with fail
    with_reducible refine HC.out.mono ?_
    rintro e w1 ⟨As, cs, rfl, hs1, hb1⟩
    have HB1 : Hid (Below w.heap.size w w1) := HB.out.trans (hb1.mono HB.out.size)
    have HS := hid hs1
    clear hb1 hs1 HC
    go_wp2_with fail
    refine (HI.out _ As cs (HS.out.alloc _)).mono ?_
    rintro e w2 ⟨v2, rfl, hs2, hb2⟩
    have HB2 : Hid (Below w.heap.size w w2) := (HB1.out.trans ((below_alloc _ _).mono HB1.out.size)).trans (hb2.mono (by have := HB1.out.size; simp; omega))
    clear hb2 hs2 HI HS
    go_wp2_with fail
    go_ret
    exact ⟨by rw [HF.out]; rfl, HB2.out⟩
  · have HF : Hid (lostS op pos = false) := by show _ = _; unfold lostS; rw [if_neg hw]
    have HC := hid (cut_no op pos (.slice Ar op.row.length cr) (.slice An op.nodes.length cn) (.slice Ap pos.length cp) Ar An Ap cr cn cp (w.alloc o1) hop (hr.alloc o1) (hpos.alloc o1) hpl (by simpa using hw))
    rw [ho1] at HC
    have HB : Hid (Below w.heap.size w (w.alloc (Obj.cells (opC op (.slice Ar op.row.length cr) (.slice An op.nodes.length cn)) 27))) := below_alloc _ _
    clear ho1 hop hr hpos hpl hw o1
    obtain ⟨kind, row, at_, n, nodes, slot, old, text⟩ := op
    simp only [opC] at *
    go_enter Try.func24, Try.ntmps24
    go_wp2_with fail
    with_reducible refine HC.out.mono ?_
    rintro e w1 ⟨rfl, hb1⟩
    have HB1 : Hid (Below w.heap.size w w1) := HB.out.trans (hb1.mono HB.out.size)
    clear hb1
    go_wp2_with fail
    go_ret
    exact ⟨by rw [HF.out]; rfl, HB1.out.trans ((below_alloc _ _).mono HB1.out.size)⟩
end Go.Proofs.Yteckkamlaibjbaa
