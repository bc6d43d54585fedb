/- Texts put together: Awake13, PosmapMap. -/
import Derived.Test.YteckkamlaibjbaaMapv
import Derived.Test.YteckkamlaibjbaaInts
import Derived.Test.YteckkamlaibjbaaGI
import Derived.Deep.RegionHeld3
/- vinculumlaw13.awake. -/
set_option linter.unusedVariables false
set_option linter.unusedSimpArgs false
namespace Go.Proofs.Yteckkamlaibjbaa
open Go.RowKit

def awOp : OpD := ⟨3, [], 1, 2, [.mk 10 ⟨#[104, 97, 116]⟩ 0 [.mk 1 ⟨#[]⟩ 0 []]], 0, ⟨#[]⟩, ⟨#[]⟩⟩
theorem awOp_ok : awOp.Ok := ⟨by simp [awOp, Bd], by simp [awOp, Bd], by simp [awOp, Bd], by simp [awOp], by simp [awOp]⟩
theorem aw_map2 : mapS awOp [2] false = [1, 0, 1] := by decide +kernel
theorem aw_map4 : mapS awOp [4] false = [3] := by decide +kernel

theorem aw_map (x : Int) (hx : Bd 1000 x) (An Ap : Option Addr) (w : World) (hpos : IntsR w (Lt w.heap.size) [x] (.slice Ap 1 1)) :
    Calls Try.prog 14 #[.agg #[.int .i64 3, .slice none 0 0, .int .i64 1, .int .i64 2, .slice An 1 1, .int .i64 0, .string ⟨#[]⟩, .string ⟨#[]⟩], .slice Ap 1 1, .bool false] w (IntsPost w (mapS awOp [x] false)) :=
  map_any awOp [x] false none An Ap 0 1 1 w awOp_ok (SliceR.nil_ 0 (by simp) none) hpos (by simp) (by intro y hy; simp at hy; subst hy; exact ⟨by have := hx.1; omega, by have := hx.2; omega⟩)

set_option maxHeartbeats 1000000 in
theorem awake_any (w : World) : Calls Try.prog 9 #[] w fun e w' => e = .returned (.bool true) ∧ Below w.heap.size w w' := by
  have HM : Hid (∀ (x : Int) (W : World) (An : Option Addr) (g : Nat), Bd 1000 x → g = W.heap.size → Calls Try.prog 14 #[.agg #[.int .i64 3, .slice none 0 0, .int .i64 1, .int .i64 2, .slice An 1 1, .int .i64 0, .string ⟨#[]⟩, .string ⟨#[]⟩], .slice (some ⟨g, 0, none⟩) 1 1, .bool false] (W.alloc (.cells #[.int .i64 x] 3)) (IntsPost (W.alloc (.cells #[.int .i64 x] 3)) (mapS awOp [x] false))) :=
    fun x W An g hx hg => aw_map x hx An _ _ (ints_lit W [x] (by intro y hy; simp at hy; subst hy; exact ⟨by have := hx.1; omega, by have := hx.2; omega⟩) (by unfold Lt; simp) _ 1 rfl rfl (by simp [maxLen]) _ g hg)
  go_enter Try.func9, Try.ntmps9
  go_wp2_with fail
  refine (HM.out 2 _ _ _ (by simp [Bd]) (by simp)).mono ?_
  rintro e w1 ⟨v1, rfl, hi1, hb1⟩
  rw [aw_map2] at hi1
  obtain ⟨A1, c1, rfl⟩ := hi1.form
  have HI1 := hid hi1
  have z1 : w.heap.size + 1 + 1 < w1.heap.size := by have := hb1.size; simp at this; omega
  have hc := (bcell hb1).1
  have q0 : w1.cell? ⟨w.heap.size + 1 + 1, 0, none⟩ = some (.int .i64 3) := (hc (w.heap.size + 1 + 1) 0 (by simp)).trans (by rw [World.cell?_alloc_lt _ _ _ (by simp), World.cell?_alloc_at _ _ _ _ (by simp)]; rfl)
  have q1 : w1.cell? ⟨w.heap.size + 1 + 1, 1, none⟩ = some (.slice none 0 0) := (hc (w.heap.size + 1 + 1) 1 (by simp)).trans (by rw [World.cell?_alloc_lt _ _ _ (by simp), World.cell?_alloc_at _ _ _ _ (by simp)]; rfl)
  have q2 : w1.cell? ⟨w.heap.size + 1 + 1, 2, none⟩ = some (.int .i64 1) := (hc (w.heap.size + 1 + 1) 2 (by simp)).trans (by rw [World.cell?_alloc_lt _ _ _ (by simp), World.cell?_alloc_at _ _ _ _ (by simp)]; rfl)
  have q3 : w1.cell? ⟨w.heap.size + 1 + 1, 3, none⟩ = some (.int .i64 2) := (hc (w.heap.size + 1 + 1) 3 (by simp)).trans (by rw [World.cell?_alloc_lt _ _ _ (by simp), World.cell?_alloc_at _ _ _ _ (by simp)]; rfl)
  have q4 : w1.cell? ⟨w.heap.size + 1 + 1, 4, none⟩ = some (.slice (some ⟨w.heap.size + 1, 0, none⟩) 1 1) := (hc (w.heap.size + 1 + 1) 4 (by simp)).trans (by rw [World.cell?_alloc_lt _ _ _ (by simp), World.cell?_alloc_at _ _ _ _ (by simp)]; rfl)
  have q5 : w1.cell? ⟨w.heap.size + 1 + 1, 5, none⟩ = some (.int .i64 0) := (hc (w.heap.size + 1 + 1) 5 (by simp)).trans (by rw [World.cell?_alloc_lt _ _ _ (by simp), World.cell?_alloc_at _ _ _ _ (by simp)]; rfl)
  have q6 : w1.cell? ⟨w.heap.size + 1 + 1, 6, none⟩ = some (.string ⟨#[]⟩) := (hc (w.heap.size + 1 + 1) 6 (by simp)).trans (by rw [World.cell?_alloc_lt _ _ _ (by simp), World.cell?_alloc_at _ _ _ _ (by simp)]; rfl)
  have q7 : w1.cell? ⟨w.heap.size + 1 + 1, 7, none⟩ = some (.string ⟨#[]⟩) := (hc (w.heap.size + 1 + 1) 7 (by simp)).trans (by rw [World.cell?_alloc_lt _ _ _ (by simp), World.cell?_alloc_at _ _ _ _ (by simp)]; rfl)
  have HB1 : Hid (Below w.heap.size w w1) := ((((below_alloc _ _).trans ((below_alloc _ _).mono (by simp))).trans ((below_alloc _ _).mono (by simp; omega))).trans ((below_alloc _ _).mono (by simp; omega))).trans (hb1.mono (by simp; omega))
  clear hi1 hb1 hc
  go_wp2_with fail
  refine (same_q [1, 0, 1] [1, 0, 1] _ _ _ _ _ (HI1.out.alloc _) (ints_lit _ [1, 0, 1] (by simp [In64]) (S := fun _ => True) trivial #[.int .i64 1, .int .i64 0, .int .i64 1] 3 rfl rfl (by simp [maxLen]) 3 _ rfl)).mono ?_
  rintro e w2 ⟨rfl, n, rfl⟩
  have hs : decide (cmpS [1, 0, 1] [1, 0, 1] = 0) = true := by decide
  rw [hs]
  generalize hw2 : (w1.alloc (Obj.cells #[.int .i64 1, .int .i64 0, .int .i64 1] 3)).drewN n = w2
  have hb2 : Below w1.heap.size w1 w2 := by rw [← hw2]; exact below_draw (below_alloc _ _) _
  have z2 : w.heap.size + 1 + 1 < w2.heap.size := by have := hb2.size; omega
  have hc := (bcell hb2).1
  have r0 : w2.cell? ⟨w.heap.size + 1 + 1, 0, none⟩ = some (.int .i64 3) := (hc _ 0 z1).trans q0
  have r1 : w2.cell? ⟨w.heap.size + 1 + 1, 1, none⟩ = some (.slice none 0 0) := (hc _ 1 z1).trans q1
  have r2 : w2.cell? ⟨w.heap.size + 1 + 1, 2, none⟩ = some (.int .i64 1) := (hc _ 2 z1).trans q2
  have r3 : w2.cell? ⟨w.heap.size + 1 + 1, 3, none⟩ = some (.int .i64 2) := (hc _ 3 z1).trans q3
  have r4 : w2.cell? ⟨w.heap.size + 1 + 1, 4, none⟩ = some (.slice (some ⟨w.heap.size + 1, 0, none⟩) 1 1) := (hc _ 4 z1).trans q4
  have r5 : w2.cell? ⟨w.heap.size + 1 + 1, 5, none⟩ = some (.int .i64 0) := (hc _ 5 z1).trans q5
  have r6 : w2.cell? ⟨w.heap.size + 1 + 1, 6, none⟩ = some (.string ⟨#[]⟩) := (hc _ 6 z1).trans q6
  have r7 : w2.cell? ⟨w.heap.size + 1 + 1, 7, none⟩ = some (.string ⟨#[]⟩) := (hc _ 7 z1).trans q7
  have HB2 : Hid (Below w.heap.size w w2) := HB1.out.trans (hb2.mono HB1.out.size)
  clear hw2 hb2 hc q0 q1 q2 q3 q4 q5 q6 q7 hs
  go_wp2_with fail
  refine (HM.out 4 _ _ _ (by simp [Bd]) rfl).mono ?_
  rintro e w3 ⟨v3, rfl, hi3, hb3⟩
  rw [aw_map4] at hi3
  obtain ⟨A3, c3, rfl⟩ := hi3.form
  have HI3 := hid hi3
  have HB3 : Hid (Below w.heap.size w w3) := (HB2.out.trans ((below_alloc _ _).mono HB2.out.size)).trans (hb3.mono (by have := HB2.out.size; simp; omega))
  clear hi3 hb3
  go_wp2_with fail
  refine (same_q [3] [3] _ _ _ _ _ (HI3.out.alloc _) (ints_lit _ [3] (by simp [In64]) (S := fun _ => True) trivial #[.int .i64 3] 1 rfl rfl (by simp [maxLen]) 3 _ rfl)).mono ?_
  rintro e w4 ⟨rfl, n4, rfl⟩
  have hs : decide (cmpS [3] [3] = 0) = true := by decide
  rw [hs]
  go_wp2_with fail
  go_ret
  exact ⟨rfl, below_draw (HB3.out.trans ((below_alloc _ _).mono HB3.out.size)) _⟩
end Go.Proofs.Yteckkamlaibjbaa
/- vinculumlaw13.PosmapMap: the walk. -/
set_option linter.unusedVariables false
set_option linter.unusedSimpArgs false
namespace Go.Proofs.Yteckkamlaibjbaa
open Go.RowKit

/-- What 'few' gives. -/
theorem opSmall_ok {pos : List Int} {op : OpD} (h : opSmall pos op = true) (hfew : op.nodes.length ≤ 1000000) : op.Ok ∧ (∀ x ∈ op.row, Bd 1099511627776 x) ∧ op.row.length ≤ 60 ∧ ∀ x ∈ pos, Bd 1099511627776 x := by
  unfold opSmall opFewS at h
  simp only [Bool.and_eq_true, decide_eq_true_eq] at h
  obtain ⟨⟨⟨⟨h1, h2⟩, h3⟩, h4⟩, h5⟩ := h
  have := nearS_bd h3
  exact ⟨⟨this _ (by simp), this _ (by simp), this _ (by simp), hfew, by omega⟩, nearS_bd h4, h2, nearS_bd h5⟩

theorem leftsS_len : ∀ (ts : List Tree) (m : Int), 0 ≤ leftsS ts m → -1 ≤ m → (ts.length : Int) ≤ m := by
  intro ts
  induction ts with
  | nil => intro m h hm; simp [leftsS] at h; simpa using h
  | cons t ts ih =>
    intro m h hm
    unfold leftsS at h
    split at h
    · rename_i h0
      have hb := leftS_bd t m h0
      have := ih _ h hb.1
      simp; omega
    · omega
theorem fewS_len {t : Tree} {m : Int} (h : fewS t m = true) (hm : 0 ≤ m) : (t.kids.length : Int) ≤ m - 1 := by
  obtain ⟨k, s, c, ts⟩ := t
  unfold fewS leftS at h
  simp only [decide_eq_true_eq] at h
  exact leftsS_len ts _ h (by omega)
theorem opFew_len {op : OpD} (h : opFewS op = true) : op.nodes.length ≤ 100 := by
  unfold opFewS at h
  simp only [Bool.and_eq_true] at h
  have := fewS_len h.1 (by omega)
  simp only [Tree.kids] at this
  omega

theorem op_lit (w : World) (op : OpD) (Ar An : Option Addr) (cr cn : Nat) (hk : In64 op.kind) (h1 : In64 op.at_) (h2 : In64 op.n) (h3 : In64 op.slot) (h4 : op.old.size ≤ maxLen) (h5 : op.text.size ≤ maxLen) (hr : IntsR w (Lt w.heap.size) op.row (.slice Ar op.row.length cr)) (hn : TreesS w (Lt w.heap.size) op.nodes (.slice An op.nodes.length cn)) (e : TypeId) :
    SliceR opE (w.alloc (.cells (opC op (.slice Ar op.row.length cr) (.slice An op.nodes.length cn)) e)) (Lt (w.alloc (.cells (opC op (.slice Ar op.row.length cr) (.slice An op.nodes.length cn)) e)).heap.size) [op] (.slice (some ⟨w.heap.size, 0, none⟩) 1 1) := by
  refine ⟨_, _, (opC op (.slice Ar op.row.length cr) (.slice An op.nodes.length cn)).toList, rfl, Nat.le_refl _, by simp [maxLen], fun _ => ⟨w.heap.size, 0, rfl, by unfold Lt; simp, fun j u hu => ?_⟩, ?_⟩
  · rw [Nat.zero_add, World.cell?_alloc_new]; simpa using hu
  · exact ListR.single (E := opE) ⟨_, _, rfl, hk, h1, h2, h3, h4, h5, hr.alloc _, hn.alloc _⟩

/-- An operation that came in. -/
structure OpIn (w : World) (op : OpD) (Ar An : Option Addr) (cr cn : Nat) : Prop where
  kind : In64 op.kind
  at_ : In64 op.at_
  n : In64 op.n
  slot : In64 op.slot
  old : op.old.size ≤ maxLen
  text : op.text.size ≤ maxLen
  row : IntsR w (Lt w.heap.size) op.row (.slice Ar op.row.length cr)
  nodes : TreesS w (Lt w.heap.size) op.nodes (.slice An op.nodes.length cn)

/-- A block's cells. -/
def Box (w : World) (b : Nat) (arr : Array Value) : Prop := ∀ j u, arr[j]? = some u → w.cell? ⟨b, j, none⟩ = some u
theorem Box.below {w w' : World} {b B : Nat} {arr : Array Value} (h : Box w b arr) (hb : Below B w w') (hB : b < B) : Box w' b arr := fun j u hu => ((bcell hb).1 b j hB).trans (h j u hu)
theorem Box.new (w : World) (arr : Array Value) (t : TypeId) : Box (w.alloc (.cells arr t)) w.heap.size arr := fun j u hu => by rw [World.cell?_alloc_new]; exact hu
theorem Box.op {w : World} {b : Nat} {a0 a1 a2 a3 a4 a5 a6 a7 : Value} (h : Box w b #[a0, a1, a2, a3, a4, a5, a6, a7]) :
    w.cell? ⟨b, 0, none⟩ = some a0 ∧ w.cell? ⟨b, 1, none⟩ = some a1 ∧ w.cell? ⟨b, 2, none⟩ = some a2 ∧ w.cell? ⟨b, 3, none⟩ = some a3 ∧ w.cell? ⟨b, 4, none⟩ = some a4 ∧ w.cell? ⟨b, 5, none⟩ = some a5 ∧ w.cell? ⟨b, 6, none⟩ = some a6 ∧ w.cell? ⟨b, 7, none⟩ = some a7 :=
  ⟨h 0 _ rfl, h 1 _ rfl, h 2 _ rfl, h 3 _ rfl, h 4 _ rfl, h 5 _ rfl, h 6 _ rfl, h 7 _ rfl⟩

set_option maxHeartbeats 2000000 in
theorem posmapMap_walk (op : OpD) (pos : List Int) (after : Bool) (Ar An Ap : Option Addr) (cr cn cp : Nat) (w : World) (ho : OpIn w op Ar An cr cn) (hpos : IntsR w (Lt w.heap.size) pos (.slice Ap pos.length cp)) :
    Calls Try.prog 7 #[.agg (opC op (.slice Ar op.row.length cr) (.slice An op.nodes.length cn)), .slice Ap pos.length cp, .bool after] w fun e w' => e = .returned (.bool true) ∧ Below w.heap.size w w' := by
  have HFEW : Hid (∀ W, Below w.heap.size w W → Calls Try.prog 10 #[.agg #[.int .i64 0, .string ⟨#[]⟩, .int .i64 0, .slice none 0 0], .slice Ap pos.length cp, .slice (some ⟨W.heap.size, 0, none⟩) 1 1] (W.alloc (.cells (opC op (.slice Ar op.row.length cr) (.slice An op.nodes.length cn)) 27)) fun e w' => e = .returned (.bool (few13S (.mk 0 ⟨#[]⟩ 0 []) pos [op])) ∧ Below w.heap.size w w' ∧ Below W.heap.size W w') := by
    intro W hW
    have h1 : Below w.heap.size w (W.alloc (.cells (opC op (.slice Ar op.row.length cr) (.slice An op.nodes.length cn)) 27)) := hW.trans ((below_alloc _ _).mono hW.size)
    exact (few13_any (.mk 0 ⟨#[]⟩ 0 []) pos [op] none Ap _ 0 cp 1 _ (SliceR.nil_ 0 (by simp) none) (hpos.below h1 h1.size) (op_lit W op Ar An cr cn ho.kind ho.at_ ho.n ho.slot ho.old ho.text (ho.row.below hW hW.size) (ho.nodes.below hW hW.size) _)).mono fun e w' h => ⟨h.1, h1.trans (h.2.mono h1.size), (below_alloc _ _).trans (h.2.mono (by simp))⟩
  obtain ⟨kind, row, at_, n, nodes, slot, old, text⟩ := op
  simp only [opC] at *
  cases hf : few13S (.mk 0 ⟨#[]⟩ 0 []) pos [⟨kind, row, at_, n, nodes, slot, old, text⟩] with
  | false =>
    rw [hf] at HFEW
    clear hf ho hpos
    go_enter Try.func7, Try.ntmps7
    go_wp2_with fail
    refine (awake_any _).mono ?_
    rintro e w1 ⟨rfl, hb1⟩
    have hbx1 := (Box.new w (opC ⟨kind, row, at_, n, nodes, slot, old, text⟩ (.slice Ar row.length cr) (.slice An nodes.length cn)) 27).below hb1 (by simp)
    obtain ⟨m0, m1, m2, m3, m4, m5, m6, m7⟩ := Box.op hbx1
    have HX1 := hid hbx1
    have z1 : w.heap.size < w1.heap.size := by have := hb1.size; simp at this; omega
    have HB1 : Hid (Below w.heap.size w w1) := (below_alloc _ _).trans (hb1.mono (by simp))
    clear hb1 hbx1
    go_wp2_with fail
    refine (HFEW.out _ HB1.out).mono ?_
    rintro e w2 ⟨rfl, hb2⟩
    have HB2 := hid hb2.1
    clear hb2
    go_wp2_with fail
    refine (awake_any _).mono ?_
    rintro e w3 ⟨rfl, hb3⟩
    go_wp2_with fail
    go_ret
    exact ⟨rfl, HB2.out.trans (hb3.mono HB2.out.size)⟩
  | true =>
    have hsm : opSmall pos ⟨kind, row, at_, n, nodes, slot, old, text⟩ = true ∧ pos.length ≤ 60 := by
      unfold few13S at hf
      simp only [List.all_cons, List.all_nil, Bool.and_true, Bool.and_eq_true, decide_eq_true_eq] at hf
      exact ⟨hf.1, hf.2.2⟩
    obtain ⟨hsm, hpl⟩ := hsm
    have hfw : opFewS ⟨kind, row, at_, n, nodes, slot, old, text⟩ = true := by unfold opSmall at hsm; simp only [Bool.and_eq_true] at hsm; exact hsm.1.1.1
    obtain ⟨hok, hrb, hrl, hpb⟩ := opSmall_ok hsm (Nat.le_trans (opFew_len hfw) (by omega))
    have hpb' : ∀ x ∈ pos, Bd 1152921504606846976 x := fun x hx => (hpb x hx).mono (by omega)
    have CM : Hid (∀ W, Below w.heap.size w W → Calls Try.prog 14 #[.agg #[.int .i64 kind, .slice Ar row.length cr, .int .i64 at_, .int .i64 n, .slice An nodes.length cn, .int .i64 slot, .string old, .string text], .slice Ap pos.length cp, .bool after] W (IntsPost W (mapS ⟨kind, row, at_, n, nodes, slot, old, text⟩ pos after))) :=
      fun W hW => map_any ⟨kind, row, at_, n, nodes, slot, old, text⟩ pos after Ar An Ap cr cn cp W hok (ho.row.below hW hW.size) (hpos.below hW hW.size) (by omega) hpb'
    have CR : Hid (∀ W, Below w.heap.size w W → Calls Try.prog 23 #[.agg #[.int .i64 kind, .slice Ar row.length cr, .int .i64 at_, .int .i64 n, .slice An nodes.length cn, .int .i64 slot, .string old, .string text], .slice Ap pos.length cp, .bool after] W (IntsPost W (mapS ⟨kind, row, at_, n, nodes, slot, old, text⟩ pos after))) := by
      intro W hW
      rw [map_eq]
      exact refmap_any ⟨kind, row, at_, n, nodes, slot, old, text⟩ pos after Ar An Ap cr cn cp W hok (ho.row.below hW hW.size) (hpos.below hW hW.size) (by omega) hpb'
    have CL : Hid (∀ W, Below w.heap.size w W → Calls Try.prog 24 #[.agg #[.int .i64 kind, .slice Ar row.length cr, .int .i64 at_, .int .i64 n, .slice An nodes.length cn, .int .i64 slot, .string old, .string text], .slice Ap pos.length cp] W fun e w' => e = .returned (.bool (lostS ⟨kind, row, at_, n, nodes, slot, old, text⟩ pos)) ∧ Below W.heap.size W w') :=
      fun W hW => lost_any ⟨kind, row, at_, n, nodes, slot, old, text⟩ pos Ar An Ap cr cn cp W hok (ho.row.below hW hW.size) (hpos.below hW hW.size) (by omega) hpb'
    have CRL : Hid (∀ W, Below w.heap.size w W → Calls Try.prog 25 #[.agg #[.int .i64 kind, .slice Ar row.length cr, .int .i64 at_, .int .i64 n, .slice An nodes.length cn, .int .i64 slot, .string old, .string text], .slice Ap pos.length cp] W fun e w' => e = .returned (.bool (lostS ⟨kind, row, at_, n, nodes, slot, old, text⟩ pos)) ∧ Below W.heap.size W w') := by
      intro W hW
      rw [lost_eq]
      exact reflost_any ⟨kind, row, at_, n, nodes, slot, old, text⟩ pos Ar An Ap cr cn cp W hok (ho.row.below hW hW.size) (hpos.below hW hW.size) (by omega) hpb'
    have CS : Hid (∀ (W : World) (S1 S2 : Nat → Prop) (v1 v2 : Value), IntsR W S1 (mapS ⟨kind, row, at_, n, nodes, slot, old, text⟩ pos after) v1 → IntsR W S2 (mapS ⟨kind, row, at_, n, nodes, slot, old, text⟩ pos after) v2 → Calls Try.prog 19 #[v1, v2] W fun e w' => e = .returned (.bool true) ∧ ∃ n, w' = W.drewN n) := by
      intro W S1 S2 v1 v2 h1 h2
      have h := same_q _ _ W v1 v2 S1 S2 h1 h2
      rw [decide_eq_true ((cmpS_zero _ _).2 rfl)] at h
      exact h
    rw [hf] at HFEW
    generalize mapS ⟨kind, row, at_, n, nodes, slot, old, text⟩ pos after = m at *
    generalize lostS ⟨kind, row, at_, n, nodes, slot, old, text⟩ pos = b at *
    clear hf ho hpos hsm hfw hok hrb hrl hpb hpb'
    cases b
    all_goals
      go_enter Try.func7, Try.ntmps7
      go_wp2_with fail
      refine (awake_any _).mono ?_
      rintro e w1 ⟨rfl, hb1⟩
      have hbx1 := (Box.new w (opC ⟨kind, row, at_, n, nodes, slot, old, text⟩ (.slice Ar row.length cr) (.slice An nodes.length cn)) 27).below hb1 (by simp)
      obtain ⟨m0, m1, m2, m3, m4, m5, m6, m7⟩ := Box.op hbx1
      have HX1 := hid hbx1
      have z1 : w.heap.size < w1.heap.size := by have := hb1.size; simp at this; omega
      have HB1 : Hid (Below w.heap.size w w1) := (below_alloc _ _).trans (hb1.mono (by simp))
      clear hb1 hbx1
      go_wp2_with fail
      refine (HFEW.out _ HB1.out).mono ?_
      rintro e w2 ⟨rfl, hb2⟩
      obtain ⟨hb2, hb2'⟩ := hb2
      have HX2 := hid (HX1.out.below hb2' z1)
      obtain ⟨r0, r1, r2, r3, r4, r5, r6, r7⟩ := Box.op HX2.out
      have HB2 := hid hb2
      have z2 : w.heap.size < w2.heap.size := by have := hb2'.size; omega
      have KEEP : Hid (∀ W, Below w2.heap.size w2 W → Box W w.heap.size #[.int .i64 kind, .slice Ar row.length cr, .int .i64 at_, .int .i64 n, .slice An nodes.length cn, .int .i64 slot, .string old, .string text]) := fun W h => HX2.out.below h z2
      clear hb2 hb2' m0 m1 m2 m3 m4 m5 m6 m7 HX1 HFEW
      go_wp2_with fail
      go_region_held3 (fun w' => w'.cell? ⟨w.heap.size, 0, none⟩ = some (.int .i64 kind) ∧ w'.cell? ⟨w.heap.size, 1, none⟩ = some (.slice Ar row.length cr) ∧ w'.cell? ⟨w.heap.size, 2, none⟩ = some (.int .i64 at_) ∧ w'.cell? ⟨w.heap.size, 3, none⟩ = some (.int .i64 n) ∧ w'.cell? ⟨w.heap.size, 4, none⟩ = some (.slice An nodes.length cn) ∧ w'.cell? ⟨w.heap.size, 5, none⟩ = some (.int .i64 slot) ∧ w'.cell? ⟨w.heap.size, 6, none⟩ = some (.string old) ∧ w'.cell? ⟨w.heap.size, 7, none⟩ = some (.string text)) (go_keep) (first
        | (go_at_call 14; refine (CM.out _ HB2.out.drew).mono ?_; rintro e w3 ⟨v3, rfl, hi3, hb3⟩; obtain ⟨A3, c3, rfl⟩ := hi3.form; have HI3 := hid hi3; have HB3 := hid (below_of_drew hb3); clear hi3 hb3; obtain ⟨k0, k1, k2, k3, k4, k5, k6, k7⟩ := Box.op (KEEP.out _ HB3.out))
        | (go_at_call 23; refine (CR.out _ (HB2.out.trans (HB3.out.mono HB2.out.size))).mono ?_; rintro e w4 ⟨v4, rfl, hi4, hb4⟩; obtain ⟨A4, c4, rfl⟩ := hi4.form; have HI4 := hid hi4; have HB4 := hid hb4; clear hi4 hb4; obtain ⟨k0, k1, k2, k3, k4, k5, k6, k7⟩ := Box.op (KEEP.out _ (HB3.out.trans (HB4.out.mono HB3.out.size))))
        | (go_at_call 19; refine (CS.out _ _ _ _ _ (HI3.out.below HB4.out HB4.out.size) HI4.out).mono ?_; rintro e w5 ⟨rfl, n5, rfl⟩; obtain ⟨k0, k1, k2, k3, k4, k5, k6, k7⟩ := Box.op (KEEP.out _ (below_draw (HB3.out.trans (HB4.out.mono HB3.out.size)) n5)))
        | (go_at_call 24; refine (CL.out _ (below_draw (HB2.out.trans ((HB3.out.trans (HB4.out.mono HB3.out.size)).mono HB2.out.size)) n5)).mono ?_; rintro e w6 ⟨rfl, hb6⟩; have HB6 : Hid (Below w2.heap.size w2 w6) := (below_draw (HB3.out.trans (HB4.out.mono HB3.out.size)) n5).trans (hb6.mono (below_draw (HB3.out.trans (HB4.out.mono HB3.out.size)) n5).size); clear hb6; obtain ⟨k0, k1, k2, k3, k4, k5, k6, k7⟩ := Box.op (KEEP.out _ HB6.out))
        | (go_at_call 25; refine (CRL.out _ (HB2.out.trans (HB6.out.mono HB2.out.size))).mono ?_; rintro e w7 ⟨rfl, hb7⟩; have HB7 : Hid (Below w2.heap.size w2 w7) := HB6.out.trans (hb7.mono HB6.out.size); clear hb7; obtain ⟨k0, k1, k2, k3, k4, k5, k6, k7⟩ := Box.op (KEEP.out _ HB7.out)))
      go_wp2_with fail
      go_ret
      exact ⟨rfl, HB2.out.trans (HB7.out.mono HB2.out.size)⟩
end Go.Proofs.Yteckkamlaibjbaa
