/- ref13.inside at the slot that is taken out: its statement draws its order. -/
import Derived.Test.YteckkamlaibjbaaStep
import Derived.Test.YteckkamlaibjbaaCuts
import Derived.Test.YteckkamlaibjbaaRef13O
import Derived.Deep.RegionHeld3
set_option linter.unusedVariables false
set_option linter.unusedSimpArgs false
namespace Go.Proofs.Yteckkamlaibjbaa
open Go.RowKit

theorem below_of_drew' {w w' : World} {B : Nat} (h : Below B w.drew w') : Below B w w' := ⟨h.os, h.tape, h.output, h.size, h.block⟩

set_option maxHeartbeats 1000000 in
set_option maxRecDepth 100000 in
theorem inside_eq (row : List Int) (n : Int) (nodes : List Tree) (old text : ByteArray) (i s r0 : Int) (rest : List Int) (Ar An Ap : Option Addr) (lr cr cn cp : Nat) (w : World) (hop : (⟨4, row, i, n, nodes, s, old, text⟩ : OpD).Ok)
    (hrb : Bd 1152921504606846976 r0) (hrl : rest.length + 1 ≤ 100000) (hr : IntsR w (Lt w.heap.size) (r0 :: rest) (.slice Ap (rest.length + 1) cp)) :
    Calls Try.prog 45 #[.agg #[.int .i64 4, .slice Ar lr cr, .int .i64 i, .int .i64 n, .slice An nodes.length cn, .int .i64 s, .string old, .string text], .int .i64 i, .int .i64 s, .slice Ap (rest.length + 1) cp] w (IntsPost w ((i + r0) :: rest)) := by
  obtain ⟨hat1, hat2⟩ : Bd 1099511627776 i := hop.at_
  obtain ⟨hr1, hr2⟩ := hrb
  obtain ⟨A1, hsl, hcut⟩ := cut_l intE Try.underlying25 size_int Ap (rest.length + 1) cp 1 1 rfl (by omega)
  have hcut' := hcut _ _ _ hr
  simp only [List.drop_succ_cons, List.drop_zero, Nat.add_sub_cancel] at hcut' hsl
  have HCU := hid hcut'
  obtain ⟨A, cap, rs, e, hc1, hc2, hrd, hls⟩ := hr
  injection e with e1 e2 e3
  subst e1 e3
  obtain ⟨g, o, rfl, hg, hi, c0⟩ := ints_at hrd hls (k := 0) (by simp)
  simp only [List.getElem_cons_zero, Nat.add_zero] at c0
  have hg' : g < w.heap.size := hg
  have HIN := hid (in64_of (x := i + r0) (by omega) (by omega))
  have i1 : (0 : Int) < ((rest.length + 1 : Nat) : Int) := by omega
  clear hrd hls hc1 hc2 e2 hcut hcut' hop hi
  go_enter Try.func45, Try.ntmps45
  go_wp2_with fail
  obtain ⟨W, hW⟩ : ∃ W, W = (w.alloc (.cells #[.int .i64 4, .slice Ar lr cr, .int .i64 i, .int .i64 n, .slice An nodes.length cn, .int .i64 s, .string old, .string text] 27)).alloc (.cells #[.int .i64 i] 3) := ⟨_, rfl⟩
  have hbW : Below w.heap.size w W := by rw [hW]; exact (below_alloc _ _).trans ((below_alloc _ _).mono (by simp))
  have hsW : W.heap.size = w.heap.size + 1 + 1 := by rw [hW]; simp
  have cW : W.cell? ⟨w.heap.size, 2, none⟩ = some (.int .i64 i) := by rw [hW]; rw [World.cell?_alloc_lt _ _ _ (by simp), World.cell?_alloc_new]; rfl
  have dW : W.cell? ⟨g, o, none⟩ = some (.int .i64 r0) := ((bcell hbW).1 _ _ hg').trans c0
  have HCW := hid (HCU.out.below hbW (Nat.le_refl _))
  rw [← hW]
  have hw1 : IntKind.i64.wrap (i + r0) = i + r0 := IntWalk.i64_in _ (by omega)
  have hsz : w.heap.size < W.heap.size := by omega
  have hgz : g < W.heap.size := by omega
  have HB := hid hbW
  have HL : Hid (∀ W', W' = W.alloc (.cells #[.int .i64 (i + r0)] 3) → Owns W'.drew (w.heap.size + 1) [i + r0] (.slice (some ⟨W.heap.size, 0, none⟩) 1 1) ∧ IntsR W'.drew (Lt w.heap.size) rest (.slice A1 rest.length (cp - 1)) ∧ Below w.heap.size w W'.drew) := by
    rintro W' rfl
    have h1 : Below w.heap.size w (W.alloc (.cells #[.int .i64 (i + r0)] 3)) := hbW.trans ((below_alloc _ _).mono hbW.size)
    exact ⟨owns_lit W _ [i + r0] (by simpa using HIN.out) 1 _ rfl rfl (by omega) _ rfl (by simp [maxLen]), HCU.out.below h1.drew (Nat.le_refl _), h1.drew⟩
  have KEEP : Hid (∀ w4, Below (w.heap.size + 1) (W.alloc (.cells #[.int .i64 (i + r0)] 3)).drew w4 → w4.cell? ⟨w.heap.size, 2, none⟩ = some (.int .i64 i) ∧ w4.cell? ⟨g, o, none⟩ = some (.int .i64 r0)) := by
    intro w4 h
    have h2 := (bcell (below_of_drew' h)).1
    exact ⟨(h2 _ _ (by omega)).trans ((World.cell?_alloc_lt _ _ _ hsz).trans cW), (h2 _ _ (by omega)).trans ((World.cell?_alloc_lt _ _ _ hgz).trans dW)⟩
  clear hW c0 hsW hbW
  go_region_held3 (fun w' => w'.cell? ⟨w.heap.size, 2, none⟩ = some (.int .i64 i) ∧ w'.cell? ⟨g, o, none⟩ = some (.int .i64 r0)) (go_keep) (first | (refine step_app_ints (by rfl) (.tmp 141) (.tmp 143) (by rfl) (w.heap.size + 1) _ [i + r0] rest (by rfl) (HL.out _ rfl).1 _ _ _ _ (by rfl) (HL.out _ rfl).2.1 (by simp; omega) (by simp; omega) ?_; intro v4 w4 hown4 hb4 _; obtain ⟨k1, k2⟩ := KEEP.out w4 hb4))
  have HO4 := hid hown4
  have HB4 : Hid (Below w.heap.size w w4) := (HL.out _ rfl).2.2.trans (hb4.mono (by omega))
  clear hown4 hb4
  go_wp2_with fail
  go_ret
  exact ⟨_, rfl, by have h := HO4.out.ints (S := Lt w4.heap.size) (fun _ _ h => h); simpa using h, HB4.out⟩
end Go.Proofs.Yteckkamlaibjbaa
