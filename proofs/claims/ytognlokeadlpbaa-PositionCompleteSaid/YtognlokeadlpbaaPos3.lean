/- position.Count. -/
import Derived.Test.YtognlokeadlpbaaPos2
set_option linter.unusedVariables false
set_option linter.unusedSimpArgs false
set_option maxRecDepth 100000
namespace Go.Proofs.Ytognlokeadlpbaa
open Go Go.RowKit Go.Shelf
attribute [local go_sem] Oper.semAt_some

/-- The worlds where a loop begins: a box for the body, and the tree's box. -/
theorem box_two (w1 : World) (b u0 u1 u2 u3 : Value) (ty tn : TypeId) :
    ((w1.alloc (.cells #[b] ty)).alloc (.cells #[u0, u1, u2, u3] tn)).cell? ⟨w1.heap.size + 1, 3, none⟩ = some u3 ∧
    (((w1.alloc (.cells #[b] ty)).alloc (.cells #[u0, u1, u2, u3] tn)).cell? ⟨w1.heap.size, 0, none⟩ = some b ∧ ((w1.alloc (.cells #[b] ty)).alloc (.cells #[u0, u1, u2, u3] tn)).frozen? ⟨w1.heap.size, 0, none⟩ = false) ∧
    ((w1.alloc (.cells #[b] ty)).alloc (.cells #[u0, u1, u2, u3] tn)).heap.size = w1.heap.size + 2 := by
  have hh := World.alloc_heap_new w1 (.cells #[b] ty)
  have h : (w1.alloc (.cells #[b] ty)).cell? ⟨w1.heap.size, 0, none⟩ = some b ∧ (w1.alloc (.cells #[b] ty)).frozen? ⟨w1.heap.size, 0, none⟩ = false := by
    generalize w1.alloc (.cells #[b] ty) = W at hh ⊢
    constructor <;> simp [World.cell?, World.frozen?, hh]
  refine ⟨?_, frozen_al h _, by simp⟩
  have e : (w1.alloc (.cells #[b] ty)).heap.size = w1.heap.size + 1 := by simp
  rw [← e, World.cell?_alloc_new]; rfl

theorem ret_i {k : IntKind} {a b : Int} (h : a = b) : Ending.returned (.int k a) = .returned (.int k b) := by rw [h]
def countR (t : Tree) : Int := if validS t then (allS [] t).length else 0

set_option maxHeartbeats 4000000 in
theorem pcount_any (t : Tree) (A : Option Addr) (cap : Nat) (w : World) (hv : SliceR treeE w (Lt w.heap.size) t.kids (.slice A t.kids.length cap)) (htx : t.text.size ≤ maxLen) :
    Calls Try.prog 38 #[.agg #[.int .i64 t.kind, .string t.text, .int .i64 t.cols, .slice A t.kids.length cap]] w fun e w' => e = .returned (.int .i64 (countR t)) ∧ Below w.heap.size w w' := by
  obtain ⟨W4, hW4⟩ : ∃ W4, W4 = w.alloc (Obj.cells #[.int .i64 t.kind, .string t.text, .int .i64 t.cols, .slice A t.kids.length cap] 24) := ⟨_, rfl⟩
  have hb0 : Below w.heap.size w W4 := by rw [hW4]; exact (Below.refl _ w).alloc (Nat.le_refl _) _
  have hs4 : W4.heap.size = w.heap.size + 1 := by rw [hW4]; simp
  have HB0 := hid hb0
  have HCK : Hid (Calls Try.prog 53 #[.agg #[.int .i64 t.kind, .string t.text, .int .i64 t.cols, .slice A t.kids.length cap]] W4 fun e w' => e = .returned (.bool (validS t)) ∧ Below W4.heap.size W4 w') :=
    nValid_any t A cap W4 (hv.below hb0 hb0.size) htx
  have KB : Hid (∀ W, Below W4.heap.size W4 W → NBox W w.heap.size t.kind t.cols t.text (.slice A t.kids.length cap)) := fun W hW => by
    rw [hW4] at hW; exact (NBox.new w t.kind t.cols t.text _).below hW (by simp)
  have HVK : Hid (∀ W, Below w.heap.size w W → SliceR treeE W (Lt w.heap.size) t.kids (.slice A t.kids.length cap)) := fun W h => hv.below h (Nat.le_refl _)
  have HVC : Hid (validS t = true → countS t ≤ 1000) := fun h => (valid_count h).1
  have HS4 := hid hs4
  have HW4 := hid hW4
  clear hv hb0 hs4 htx hW4
  cases hck : validS t
  · have HR : Hid (countR t = 0) := by show _ = _; simp [countR, hck]
    rw [HR.out]
    rw [hck] at HCK
    clear HR hck HVC
    obtain ⟨tk, tx, tc, ts⟩ := t
    simp only [Tree.kind, Tree.text, Tree.cols, Tree.kids] at *
    go_enter Try.func38, Try.ntmps38
    go_wp2_with fail
    rw [← HW4.out]
    refine HCK.out.mono ?_
    rintro e w1 ⟨rfl, hb1⟩
    have HB1 := hid (HB0.out.trans (hb1.mono HB0.out.size))
    clear hb1
    go_wp2_with fail
    go_ret
    exact ⟨rfl, HB1.out⟩
  · have hcnt := HVC.out hck
    have HCNT := hid hcnt
    have HLE : Hid ((allS [] t).length ≤ 2000) := by show _ ≤ _; rw [allS_len]; have := cntS_le t; omega
    have HR : Hid (countR t = ((allS [] t).length : Int)) := by show _ = _; simp [countR, hck]
    rw [hck] at HCK
    rw [HR.out]
    generalize hL : allS [] t = L at *
    have HL := hid hL
    obtain ⟨tk, tx, tc, ts⟩ := t
    simp only [Tree.kind, Tree.text, Tree.cols, Tree.kids] at *
    clear hcnt hck hL HR HVC
    refine (callsIn_wide (n := 0)).1 ?_
    refine callsIn_of_wp_marks Try.func38 rfl trivial ?_ rfl
    simp only [Try.ntmps38, List.size_toArray, List.length_cons, List.length_nil, Nat.reduceAdd, Nat.reduceSub, Array.replicate_succ, Array.replicate_zero, List.push_toArray, List.append_toArray, List.nil_append, List.cons_append]
    gi_wp2_with fail
    rw [← HW4.out]
    refine ⟨trivial, rfl, ?_⟩
    refine (callsIn_wide.2 HCK.out).mono ?_
    rintro e w1 ⟨rfl, hb1⟩
    have HB1 := hid (HB0.out.trans (hb1.mono HB0.out.size))
    have HZ1 : Hid (w.heap.size < w1.heap.size) := by have := HS4.out; have := hb1.size; show _ < _; omega
    have hz := HZ1.out
    obtain ⟨q0, q00, q01, q02⟩ := KB.out w1 hb1
    clear hb1
    gi_wp2_with (refine ⟨trivial, rfl, ?_⟩; gi_at_call 66; refine (places_any _ ⟨_, _, _, _, rfl⟩ _ _).mono ?_; rintro e w' ⟨rfl, rfl⟩)
    obtain ⟨HC3, ⟨k0, kf⟩, hz5⟩ := box_two w1 (.int .i64 0) (.int .i64 tk) (.string tx) (.int .i64 tc) (.slice A ts.length cap) 3 24
    have hb5 : Below w.heap.size w ((w1.alloc (.cells #[.int .i64 0] 3)).alloc (.cells #[.int .i64 tk, .string tx, .int .i64 tc, .slice A ts.length cap] 24)) := (HB1.out.alloc HB1.out.size _).alloc (by simp; omega) _
    generalize ((w1.alloc (.cells #[.int .i64 0] 3)).alloc (.cells #[.int .i64 tk, .string tx, .int .i64 tc, .slice A ts.length cap] 24)) = W5 at *
    clear q0 q00 q01 q02
    have HB5 := hid hb5
    refine wpIn_places 9 (.mk tk tx tc ts) w.heap.size (w1.heap.size + 1) (w1.heap.size + 1) A cap rfl (by omega) (by omega) (by omega) HC3 (HVK.out _ hb5) (by have := HCNT.out; omega)
      (fun pre W => Below w.heap.size w W ∧ (W.cell? ⟨w1.heap.size, 0, none⟩ = some (.int .i64 (pre.length : Int)) ∧ W.frozen? ⟨w1.heap.size, 0, none⟩ = false))
      (fun c pre W => False)
      ?hI ?hIx ⟨hb5, k0, kf⟩ ?assign ?body ?done ?stop
    case hI => exact OwnFrom.and (ownFrom_below (Nat.le_refl _) hb5.size) (own_box _ _ (fun pre : List PosV => .int .i64 (pre.length : Int)))
    case hIx => exact fun c => own_pure _ _
    case assign =>
      intro l x W K hK
      gi_wp2
      exact hK
    case body =>
      rintro l pre ⟨xl, xv⟩ W ⟨hb, hc1, hf1⟩ hx hpre
      obtain ⟨Ax, cx, rfl, hx⟩ := prd_form hx
      dsimp only
      have HB := hid hb
      have hzz := World.block_lt_of_cell? W _ hc1
      have hlen : (pre.length : Int) + 1 ≤ 2000 := by
        have h1 := hpre.length_le
        rw [HL.out] at h1
        have h2 := HLE.out
        simp at h1; omega
      have hge : (0 : Int) ≤ (pre.length : Int) := by omega
      have HLN : Hid (((pre ++ [((xl, .slice Ax xl.length cx) : PosV)]).length : Int) = (pre.length : Int) + 1) := by show _ = _; simp
      generalize (pre.length : Int) = z at *
      clear hb hx hpre
      gi_wp2
      refine ⟨KeepsOthers.setCell _ _ _, But.setCell (V := VP _ _ _) W (p := ⟨w1.heap.size, 0, none⟩) (.inl ⟨by simp; omega, by simp⟩) _, HB.out.setCell (p := ⟨w1.heap.size, 0, none⟩) (by simp; omega) _, ?_, ?_⟩
      · rw [HLN.out]; exact World.cell?_setCell_same' _ _ _ (by rw [hc1]; rfl)
      · rw [World.frozen?_setCell]; exact hf1
    case done =>
      rintro D xs W hD hxs ⟨hb, hc1, hf1⟩ hK
      have HB := hid hb
      have HLN : Hid ((xs.length : Int) = (L.length : Int)) := by show _ = _; rw [← HL.out, ← hxs]; simp
      clear hb hxs
      generalize (xs.length : Int) = z at *
      gi_wp2
      refine ⟨by simp, .inl ⟨_, _, rfl, run_takeDeferred hK, ?_⟩⟩
      refine ⟨_, results_tmp rfl _ _ _, ?_, ?_⟩
      · exact ret_i HLN.out
      exact HB.out.trans (belowK_b (w := w) (Nat.le_refl _) W D _ (.deferred none) (by omega) hK rfl rfl)
    case stop =>
      rintro D c pre W hD hpre h hK
      exact h.elim
end Go.Proofs.Ytognlokeadlpbaa
