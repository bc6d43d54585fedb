/- posmap.unwrap at the slot that is taken out: its last statement draws its order. -/
import Derived.Test.YteckkamlaibjbaaPlaceD
import Derived.Test.YteckkamlaibjbaaCuts
import Derived.Deep.QuietTactic
import Derived.BigQuiet
import Derived.Deep.RegionHeld3
set_option linter.unusedVariables false
set_option linter.unusedSimpArgs false
namespace Go.Proofs.Yteckkamlaibjbaa
open Go.RowKit

theorem SliceR.drew {α : Type} {E : Enc α} {w : World} {xs : List α} {v : Value} (h : SliceR E w (Lt w.heap.size) xs v) : SliceR E w.drew (Lt w.drew.heap.size) xs v := h.keep (fun _ _ => rfl) (fun _ h => h)

set_option maxHeartbeats 2000000 in
theorem unwrap_eq (kind : Int) (row : List Int) (n : Int) (nodes : List Tree) (old text : ByteArray) (k : Nat) (index slot r : Int) (rest : List Int) (Ar An As : Option Addr) (lr cr ln cn cs : Nat) (w : World)
    (hp : (⟨⟨kind, row, index, n, nodes, slot, old, text⟩, k, index, true, slot, r :: rest⟩ : PlaceD).Ok) (hs : IntsR w (Lt w.heap.size) (r :: rest) (.slice As (rest.length + 1) cs)) :
    Calls Try.prog 61 #[.agg #[.int .i64 kind, .slice Ar lr cr, .int .i64 index, .int .i64 n, .slice An ln cn, .int .i64 slot, .string old, .string text, .int .i64 k, .int .i64 index, .bool true, .int .i64 slot, .slice As (rest.length + 1) cs]] w
      (PairPost w ((index + r) :: rest, false)) := by
  have hlen : rest.length + 1 ≤ 100000 := hp.len
  obtain ⟨hat1, hat2⟩ : Bd 1099511627776 index := hp.at_
  obtain ⟨hr1, hr2⟩ := hp.rest r (by simp)
  obtain ⟨A1, hsl, hcut⟩ := cut_l intE Try.underlying25 size_int As (rest.length + 1) cs 1 1 rfl (by omega)
  have hcut' := hcut _ _ _ hs
  simp only [List.drop_succ_cons, List.drop_zero, Nat.add_sub_cancel] at hcut' hsl
  have HCU := hid hcut'
  obtain ⟨A, cap, rs, e, hc1, hc2, hrd, hls⟩ := hs
  injection e with e1 e2 e3
  subst e1 e3
  obtain ⟨g, o, rfl, hg, hi, c0⟩ := ints_at hrd hls (k := 0) (by simp)
  simp only [List.getElem_cons_zero, Nat.add_zero] at c0
  have hg' : g < w.heap.size := hg
  have hrin := in64_of (x := index + r) (by omega) (by omega)
  have i1 : (0 : Int) < ((rest.length + 1 : Nat) : Int) := by omega
  have HIN := hid hrin
  clear hrd hls hc1 hc2 e2 hcut hcut' hp hi
  go_enter Try.func61, Try.ntmps61
  go_wp2_with fail
  go_quiet (fail)
  go_wp2_with fail
  obtain ⟨W, hW⟩ : ∃ W, W = (w.alloc (.cells #[.int .i64 kind, .slice Ar lr cr, .int .i64 index, .int .i64 n, .slice An ln cn, .int .i64 slot, .string old, .string text, .int .i64 k, .int .i64 index, .bool true, .int .i64 slot, .slice (some ⟨g, o, none⟩) (rest.length + 1) cs] 65)).drewN nq := ⟨_, rfl⟩
  have hbW : Below w.heap.size w W := by rw [hW]; exact below_draw (below_alloc _ _) _
  have hsW : W.heap.size = w.heap.size + 1 := by rw [hW]; simp [World.drewN]
  have cW : W.cell? ⟨w.heap.size, 12, none⟩ = some (.slice (some ⟨g, o, none⟩) (rest.length + 1) cs) := by rw [hW]; exact World.cell?_alloc_new _ _ _ _
  have dW : W.cell? ⟨g, o, none⟩ = some (.int .i64 r) := ((bcell hbW).1 _ _ hg').trans c0
  have HCW := hid (HCU.out.below hbW hbW.size)
  rw [← hW]
  have hw1 : IntKind.i64.wrap (index + r) = index + r := IntWalk.i64_in _ (by omega)
  have hsz : w.heap.size < W.heap.size := by omega
  have hgz : g < W.heap.size := by omega
  have HB := hid hbW
  clear hW c0 hsW hbW
  have HM := hid (ints_lit W [index + r] (by simpa using HIN.out) (S := Lt (W.alloc (.cells #[.int .i64 (index + r)] 3)).heap.size) (by unfold Lt; simp) #[.int .i64 (index + r)] 1 rfl rfl (by simp [maxLen]) 3 W.heap.size rfl)
  have HC := hid (SliceR.drew (rows2 HM.out (HCW.out.alloc (.cells #[.int .i64 (index + r)] 3)) 25 rfl (fun _ h => h) (W.heap.size + 1) (by simp)))
  have HF : Hid ([[index + r], rest].flatten.length ≤ 1000000) := by show _ ≤ _; simp; omega
  obtain ⟨W3, hW3⟩ : ∃ W3, W3 = ((W.alloc (.cells #[.int .i64 (index + r)] 3)).alloc (.cells #[.slice (some ⟨W.heap.size, 0, none⟩) 1 1, .slice A1 rest.length (cs - 1)] 25)).drew := ⟨_, rfl⟩
  have hb3 : Below W.heap.size W W3 := by rw [hW3]; exact ((below_alloc _ _).trans ((below_alloc _ _).mono (by simp))).drew
  have KEEP : Hid (∀ w1, Below W3.heap.size W3 w1 → w1.cell? ⟨w.heap.size, 12, none⟩ = some (.slice (some ⟨g, o, none⟩) (rest.length + 1) cs) ∧ w1.cell? ⟨g, o, none⟩ = some (.int .i64 r)) :=
    fun w1 h => ⟨((bcell ((hb3.mono (Nat.le_refl _)).trans (h.mono hb3.size))).1 _ _ hsz).trans cW, ((bcell ((hb3.mono (Nat.le_refl _)).trans (h.mono hb3.size))).1 _ _ hgz).trans dW⟩
  have HB3 := hid hb3
  rw [hW3] at KEEP HB3
  clear hb3 hW3 W3
  go_region_held3 (fun w' => w'.cell? ⟨w.heap.size, 12, none⟩ = some (.slice (some ⟨g, o, none⟩) (rest.length + 1) cs) ∧ w'.cell? ⟨g, o, none⟩ = some (.int .i64 r)) (go_keep) (first | (go_at_call 40; refine (concat_any [[index + r], rest] _ _ HC.out HF.out).mono ?_; rintro e w1 ⟨v1, rfl, hown1, hb1⟩; obtain ⟨q1, q2⟩ := KEEP.out w1 hb1))
  have HO := hid hown1
  have HB1 := hid hb1
  clear hown1 hb1
  go_wp2_with fail
  go_ret2
  refine ⟨_, rfl, by have h := HO.out.ints (S := Lt w1.heap.size) (fun _ _ h => h); simpa using h, ?_⟩
  have h2 := HB3.out.mono HB.out.size
  exact HB.out.trans (h2.trans (HB1.out.mono (HB.out.trans h2).size))
end Go.Proofs.Yteckkamlaibjbaa
