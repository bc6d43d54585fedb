/- ref40.Same; law40: reference, few. Written by wip/genlaw40.py. -/
import Derived.Test.YtmahiejfniaahaaGreatDoorHC
import Derived.Test.YtmahiejfniaahaaGreatDoorHD
import Derived.Test.YtmahiejfniaahaaGreatDoorGN
import Derived.Test.YtmahiejfniaahaaGreatDoorHJ
set_option linter.unusedVariables false
set_option linter.unusedSimpArgs false
set_option maxRecDepth 100000
namespace Go.Proofs.YtmahiejfniaahaaGreatDoor
open Go.RowKit

theorem ref40_q (A : Option Addr) (n c : Nat) (x y z : Int) (w : World) :
    Calls Tryz.prog 16 #[.agg #[.slice A n c, .int .i64 x, .int .i64 y, .int .i64 z]] w fun e w' => e = .returned (.agg #[.slice A n c, .int .i64 x, .int .i64 y, .int .i64 z]) ∧ ∃ a b, w' = (w.alloc a).alloc b := by
  go_enter Tryz.func16, Tryz.ntmps16
  go_wp2_with fail
  refine bodyPost_ret (v := .agg #[.slice A n c, .int .i64 x, .int .i64 y, .int .i64 z]) (by simp [results, Tryz.results16, go_sem]) rfl ⟨rfl, _, _, rfl⟩

set_option maxHeartbeats 2000000 in
theorem same40_any (p : List Int) (x y z : Int) (A B : Option Addr) (ca cb : Nat) (w : World) (S S' : Nat → Prop) (hS : ∀ k, S k → k < w.heap.size) (hS' : ∀ k, S' k → k < w.heap.size) (ha : IntsR w S p (.slice A p.length ca)) (hb : IntsR w S' p (.slice B p.length cb)) :
    Calls Tryz.prog 15 #[.agg #[.slice A p.length ca, .int .i64 x, .int .i64 y, .int .i64 z], .agg #[.slice B p.length cb, .int .i64 x, .int .i64 y, .int .i64 z]] w fun e w' => e = .returned (.bool true) ∧ Below w.heap.size w w' := by
  obtain ⟨W0, hW0⟩ : ∃ W0, (w.alloc (.cells #[.slice A p.length ca, .int .i64 x, .int .i64 y, .int .i64 z] 36)).alloc (.cells #[.slice B p.length cb, .int .i64 x, .int .i64 y, .int .i64 z] 36) = W0 := ⟨_, rfl⟩
  have hb0 : Below w.heap.size w W0 := by rw [← hW0]; exact bAl (bNew _ _) _
  have h1 : BoxL W0 w.heap.size 0 [.slice A p.length ca, .int .i64 x, .int .i64 y, .int .i64 z] := by rw [← hW0]; exact (BoxL.new _ _ _ _ rfl _ rfl).below (bNew _ _) (by simp)
  have h2 : BoxL W0 (w.heap.size + 1) 0 [.slice B p.length cb, .int .i64 x, .int .i64 y, .int .i64 z] := by rw [← hW0]; exact BoxL.new _ _ _ _ (by simp) _ rfl
  have HS : Hid (Calls Tryz.prog 25 #[.slice A p.length ca, .slice B p.length cb] W0 fun e w' => e = .returned (.bool true) ∧ ∃ m, w' = W0.drewN m) := by
    have h := sameI_q p p W0 S S' A B ca cb (ha.keep (fun q hq => hb0.cell (hS _ hq)) (fun _ h => h)) (hb.keep (fun q hq => hb0.cell (hS' _ hq)) (fun _ h => h))
    rwa [decide_eq_true rfl] at h
  have HB0 := hid hb0
  have a0 := h1 0 _ rfl
  have a1 := h1 1 _ rfl
  have a2 := h1 2 _ rfl
  have a3 := h1 3 _ rfl
  have b0 := h2 0 _ rfl
  have b1 := h2 1 _ rfl
  have b2 := h2 2 _ rfl
  have b3 := h2 3 _ rfl
  simp only [Nat.zero_add] at a0 a1 a2 a3 b0 b1 b2 b3
  clear ha hb hb0 h1 h2 hS hS'
  go_enter Tryz.func15, Tryz.ntmps15
  go_wp2_with fail
  refine HS.out.mono ?_
  rintro e w1 ⟨rfl, m1, rfl⟩
  go_wp2_with fail
  go_ret
  exact ⟨rfl, bDn HB0.out _⟩

def few40S (t : Tree) (b : Bx) : Bool := fewS t 40 && fewB b 2000
theorem few40_cnt {t : Tree} {b : Bx} (h : few40S t b = true) : countS t ≤ 40 ∧ cntB b ≤ 2000 := by
  unfold few40S at h
  rw [Bool.and_eq_true] at h
  have h1 := few_count (t := t) (m := 40) h.1
  have h2 := fewB_cnt (b := b) (m := 2000) (by omega) h.2
  exact ⟨by omega, by omega⟩
set_option maxHeartbeats 2000000 in
theorem few40_any (t : Tree) (b : Bx) (A Ak As : Option Addr) (cap ck cs : Nat) (w : World) (hv : SliceR treeE w (Lt w.heap.size) t.kids (.slice A t.kids.length cap)) (hb : BoxIn w b Ak As ck cs) :
    Calls Tryz.prog 12 #[nodeV t A cap, boxV b Ak As ck cs] w fun e w' => e = .returned (.bool (few40S t b)) ∧ Below w.heap.size w w' := by
  have C1 : Hid (∀ W, Below w.heap.size w W → Calls Tryz.prog 27 #[nodeV t A cap, .int .i64 40] W fun e w' => e = .returned (.bool (fewS t 40)) ∧ Below W.heap.size W w') := fun W hW => few_any t W _ 40 (hv.below hW hW.size) (by omega) (by omega)
  have C2 : Hid (∀ W, Below w.heap.size w W → Calls Tryz.prog 28 #[boxV b Ak As ck cs, .int .i64 2000] W fun e w' => e = .returned (.bool (fewB b 2000)) ∧ Below W.heap.size W w') := fun W hW => few28_any b Ak As ck cs W 2000 (hb.below hW).kids (by omega) (by omega)
  generalize hW0 : ((w.alloc (Obj.cells #[.int .i64 t.kind, .string t.text, .int .i64 t.cols, .slice A t.kids.length cap] 24)).alloc (Obj.cells (boxC b.f (.slice Ak b.kids.length ck) (.slice As b.f.src.length cs)) 28)) = W0
  have KB : Hid (∀ W, Below W0.heap.size W0 W → Laid2 W w.heap.size w.heap.size t b A Ak As cap ck cs ∧ Below w.heap.size w W) := fun W hW => by
    have hz0 : W0.heap.size = w.heap.size + 2 := by rw [← hW0]; simp
    have h1 := Laid2.new w t b A Ak As cap ck cs 24 28 hv hb
    have h3 : Below w.heap.size w W0 := by rw [← hW0]; exact bAl (bNew _ _) _
    rw [hW0] at h1
    exact ⟨h1.below hW (by omega) (by omega), h3.trans (hW.mono h3.size)⟩
  have HF : Hid (few40S t b = (fewS t 40 && fewB b 2000)) := rfl
  generalize few40S t b = R at *
  generalize fewS t 40 = b1 at *
  generalize fewB b 2000 = b2 at *
  clear hv hb
  cases b1 with
  | false =>
    have HG : Hid (R = false) := by show _ = _; rw [HF.out]; rfl
    obtain ⟨hl2, hbw⟩ := KB.out W0 (Below.refl _ _)
    have m0 := hl2.node 0 _ rfl
    have m1 := hl2.node 1 _ rfl
    have m2 := hl2.node 2 _ rfl
    have m3 := hl2.node 3 _ rfl
    have n0 := hl2.box 0 _ rfl
    have n1 := hl2.box 1 _ rfl
    have n2 := hl2.box 2 _ rfl
    have n3 := hl2.box 3 _ rfl
    have n4 := hl2.box 4 _ rfl
    have n5 := hl2.box 5 _ rfl
    have n6 := hl2.box 6 _ rfl
    have n7 := hl2.box 7 _ rfl
    have n8 := hl2.box 8 _ rfl
    have n9 := hl2.box 9 _ rfl
    have n10 := hl2.box 10 _ rfl
    simp only [Nat.zero_add] at m0 m1 m2 m3 n0 n1 n2 n3 n4 n5 n6 n7 n8 n9 n10
    have HBW_W0 := hid hbw
    clear hl2 hbw
    go_enter Tryz.func12, Tryz.ntmps12
    go_wp2_with fail
    clear hW0
    refine (C1.out _ HBW_W0.out).mono ?_
    rintro e w1 ⟨rfl, hb1⟩
    have HT1 := hid hb1
    clear hb1
    clear m0 m1 m2 m3 n0 n1 n2 n3 n4 n5 n6 n7 n8 n9 n10
    obtain ⟨hl2, hbw⟩ := KB.out w1 HT1.out
    have m0 := hl2.node 0 _ rfl
    have m1 := hl2.node 1 _ rfl
    have m2 := hl2.node 2 _ rfl
    have m3 := hl2.node 3 _ rfl
    have n0 := hl2.box 0 _ rfl
    have n1 := hl2.box 1 _ rfl
    have n2 := hl2.box 2 _ rfl
    have n3 := hl2.box 3 _ rfl
    have n4 := hl2.box 4 _ rfl
    have n5 := hl2.box 5 _ rfl
    have n6 := hl2.box 6 _ rfl
    have n7 := hl2.box 7 _ rfl
    have n8 := hl2.box 8 _ rfl
    have n9 := hl2.box 9 _ rfl
    have n10 := hl2.box 10 _ rfl
    simp only [Nat.zero_add] at m0 m1 m2 m3 n0 n1 n2 n3 n4 n5 n6 n7 n8 n9 n10
    have HBW_w1 := hid hbw
    clear hl2 hbw
    go_wp2_with fail
    go_ret
    exact ⟨by rw [HG.out]; rfl, HBW_w1.out⟩
  | true =>
    have HG : Hid (R = b2) := by show _ = _; rw [HF.out]; simp
    obtain ⟨hl2, hbw⟩ := KB.out W0 (Below.refl _ _)
    have m0 := hl2.node 0 _ rfl
    have m1 := hl2.node 1 _ rfl
    have m2 := hl2.node 2 _ rfl
    have m3 := hl2.node 3 _ rfl
    have n0 := hl2.box 0 _ rfl
    have n1 := hl2.box 1 _ rfl
    have n2 := hl2.box 2 _ rfl
    have n3 := hl2.box 3 _ rfl
    have n4 := hl2.box 4 _ rfl
    have n5 := hl2.box 5 _ rfl
    have n6 := hl2.box 6 _ rfl
    have n7 := hl2.box 7 _ rfl
    have n8 := hl2.box 8 _ rfl
    have n9 := hl2.box 9 _ rfl
    have n10 := hl2.box 10 _ rfl
    simp only [Nat.zero_add] at m0 m1 m2 m3 n0 n1 n2 n3 n4 n5 n6 n7 n8 n9 n10
    have HBW_W0 := hid hbw
    clear hl2 hbw
    go_enter Tryz.func12, Tryz.ntmps12
    go_wp2_with fail
    clear hW0
    refine (C1.out _ HBW_W0.out).mono ?_
    rintro e w1 ⟨rfl, hb1⟩
    have HT1 := hid hb1
    clear hb1
    clear m0 m1 m2 m3 n0 n1 n2 n3 n4 n5 n6 n7 n8 n9 n10
    obtain ⟨hl2, hbw⟩ := KB.out w1 HT1.out
    have m0 := hl2.node 0 _ rfl
    have m1 := hl2.node 1 _ rfl
    have m2 := hl2.node 2 _ rfl
    have m3 := hl2.node 3 _ rfl
    have n0 := hl2.box 0 _ rfl
    have n1 := hl2.box 1 _ rfl
    have n2 := hl2.box 2 _ rfl
    have n3 := hl2.box 3 _ rfl
    have n4 := hl2.box 4 _ rfl
    have n5 := hl2.box 5 _ rfl
    have n6 := hl2.box 6 _ rfl
    have n7 := hl2.box 7 _ rfl
    have n8 := hl2.box 8 _ rfl
    have n9 := hl2.box 9 _ rfl
    have n10 := hl2.box 10 _ rfl
    simp only [Nat.zero_add] at m0 m1 m2 m3 n0 n1 n2 n3 n4 n5 n6 n7 n8 n9 n10
    have HBW_w1 := hid hbw
    clear hl2 hbw
    go_wp2_with fail
    refine (C2.out _ HBW_w1.out).mono ?_
    rintro e w2 ⟨rfl, hb2⟩
    have HT2 := hid (bCl HBW_w1.out hb2)
    clear hb2
    go_wp2_with fail
    go_ret
    exact ⟨by rw [HG.out]; rfl, HT2.out⟩
set_option maxHeartbeats 2000000 in
theorem few41_any (t : Tree) (b : Bx) (A Ak As : Option Addr) (cap ck cs : Nat) (w : World) (hv : SliceR treeE w (Lt w.heap.size) t.kids (.slice A t.kids.length cap)) (hb : BoxIn w b Ak As ck cs) :
    Calls Tryz.prog 22 #[nodeV t A cap, boxV b Ak As ck cs] w fun e w' => e = .returned (.bool (few40S t b)) ∧ Below w.heap.size w w' := by
  have C1 : Hid (∀ W, Below w.heap.size w W → Calls Tryz.prog 27 #[nodeV t A cap, .int .i64 40] W fun e w' => e = .returned (.bool (fewS t 40)) ∧ Below W.heap.size W w') := fun W hW => few_any t W _ 40 (hv.below hW hW.size) (by omega) (by omega)
  have C2 : Hid (∀ W, Below w.heap.size w W → Calls Tryz.prog 28 #[boxV b Ak As ck cs, .int .i64 2000] W fun e w' => e = .returned (.bool (fewB b 2000)) ∧ Below W.heap.size W w') := fun W hW => few28_any b Ak As ck cs W 2000 (hb.below hW).kids (by omega) (by omega)
  generalize hW0 : ((w.alloc (Obj.cells #[.int .i64 t.kind, .string t.text, .int .i64 t.cols, .slice A t.kids.length cap] 24)).alloc (Obj.cells (boxC b.f (.slice Ak b.kids.length ck) (.slice As b.f.src.length cs)) 28)) = W0
  have KB : Hid (∀ W, Below W0.heap.size W0 W → Laid2 W w.heap.size w.heap.size t b A Ak As cap ck cs ∧ Below w.heap.size w W) := fun W hW => by
    have hz0 : W0.heap.size = w.heap.size + 2 := by rw [← hW0]; simp
    have h1 := Laid2.new w t b A Ak As cap ck cs 24 28 hv hb
    have h3 : Below w.heap.size w W0 := by rw [← hW0]; exact bAl (bNew _ _) _
    rw [hW0] at h1
    exact ⟨h1.below hW (by omega) (by omega), h3.trans (hW.mono h3.size)⟩
  have HF : Hid (few40S t b = (fewS t 40 && fewB b 2000)) := rfl
  generalize few40S t b = R at *
  generalize fewS t 40 = b1 at *
  generalize fewB b 2000 = b2 at *
  clear hv hb
  cases b1 with
  | false =>
    have HG : Hid (R = false) := by show _ = _; rw [HF.out]; rfl
    obtain ⟨hl2, hbw⟩ := KB.out W0 (Below.refl _ _)
    have m0 := hl2.node 0 _ rfl
    have m1 := hl2.node 1 _ rfl
    have m2 := hl2.node 2 _ rfl
    have m3 := hl2.node 3 _ rfl
    have n0 := hl2.box 0 _ rfl
    have n1 := hl2.box 1 _ rfl
    have n2 := hl2.box 2 _ rfl
    have n3 := hl2.box 3 _ rfl
    have n4 := hl2.box 4 _ rfl
    have n5 := hl2.box 5 _ rfl
    have n6 := hl2.box 6 _ rfl
    have n7 := hl2.box 7 _ rfl
    have n8 := hl2.box 8 _ rfl
    have n9 := hl2.box 9 _ rfl
    have n10 := hl2.box 10 _ rfl
    simp only [Nat.zero_add] at m0 m1 m2 m3 n0 n1 n2 n3 n4 n5 n6 n7 n8 n9 n10
    have HBW_W0 := hid hbw
    clear hl2 hbw
    go_enter Tryz.func22, Tryz.ntmps22
    go_wp2_with fail
    clear hW0
    refine (C1.out _ HBW_W0.out).mono ?_
    rintro e w1 ⟨rfl, hb1⟩
    have HT1 := hid hb1
    clear hb1
    clear m0 m1 m2 m3 n0 n1 n2 n3 n4 n5 n6 n7 n8 n9 n10
    obtain ⟨hl2, hbw⟩ := KB.out w1 HT1.out
    have m0 := hl2.node 0 _ rfl
    have m1 := hl2.node 1 _ rfl
    have m2 := hl2.node 2 _ rfl
    have m3 := hl2.node 3 _ rfl
    have n0 := hl2.box 0 _ rfl
    have n1 := hl2.box 1 _ rfl
    have n2 := hl2.box 2 _ rfl
    have n3 := hl2.box 3 _ rfl
    have n4 := hl2.box 4 _ rfl
    have n5 := hl2.box 5 _ rfl
    have n6 := hl2.box 6 _ rfl
    have n7 := hl2.box 7 _ rfl
    have n8 := hl2.box 8 _ rfl
    have n9 := hl2.box 9 _ rfl
    have n10 := hl2.box 10 _ rfl
    simp only [Nat.zero_add] at m0 m1 m2 m3 n0 n1 n2 n3 n4 n5 n6 n7 n8 n9 n10
    have HBW_w1 := hid hbw
    clear hl2 hbw
    go_wp2_with fail
    go_ret
    exact ⟨by rw [HG.out]; rfl, HBW_w1.out⟩
  | true =>
    have HG : Hid (R = b2) := by show _ = _; rw [HF.out]; simp
    obtain ⟨hl2, hbw⟩ := KB.out W0 (Below.refl _ _)
    have m0 := hl2.node 0 _ rfl
    have m1 := hl2.node 1 _ rfl
    have m2 := hl2.node 2 _ rfl
    have m3 := hl2.node 3 _ rfl
    have n0 := hl2.box 0 _ rfl
    have n1 := hl2.box 1 _ rfl
    have n2 := hl2.box 2 _ rfl
    have n3 := hl2.box 3 _ rfl
    have n4 := hl2.box 4 _ rfl
    have n5 := hl2.box 5 _ rfl
    have n6 := hl2.box 6 _ rfl
    have n7 := hl2.box 7 _ rfl
    have n8 := hl2.box 8 _ rfl
    have n9 := hl2.box 9 _ rfl
    have n10 := hl2.box 10 _ rfl
    simp only [Nat.zero_add] at m0 m1 m2 m3 n0 n1 n2 n3 n4 n5 n6 n7 n8 n9 n10
    have HBW_W0 := hid hbw
    clear hl2 hbw
    go_enter Tryz.func22, Tryz.ntmps22
    go_wp2_with fail
    clear hW0
    refine (C1.out _ HBW_W0.out).mono ?_
    rintro e w1 ⟨rfl, hb1⟩
    have HT1 := hid hb1
    clear hb1
    clear m0 m1 m2 m3 n0 n1 n2 n3 n4 n5 n6 n7 n8 n9 n10
    obtain ⟨hl2, hbw⟩ := KB.out w1 HT1.out
    have m0 := hl2.node 0 _ rfl
    have m1 := hl2.node 1 _ rfl
    have m2 := hl2.node 2 _ rfl
    have m3 := hl2.node 3 _ rfl
    have n0 := hl2.box 0 _ rfl
    have n1 := hl2.box 1 _ rfl
    have n2 := hl2.box 2 _ rfl
    have n3 := hl2.box 3 _ rfl
    have n4 := hl2.box 4 _ rfl
    have n5 := hl2.box 5 _ rfl
    have n6 := hl2.box 6 _ rfl
    have n7 := hl2.box 7 _ rfl
    have n8 := hl2.box 8 _ rfl
    have n9 := hl2.box 9 _ rfl
    have n10 := hl2.box 10 _ rfl
    simp only [Nat.zero_add] at m0 m1 m2 m3 n0 n1 n2 n3 n4 n5 n6 n7 n8 n9 n10
    have HBW_w1 := hid hbw
    clear hl2 hbw
    go_wp2_with fail
    refine (C2.out _ HBW_w1.out).mono ?_
    rintro e w2 ⟨rfl, hb2⟩
    have HT2 := hid (bCl HBW_w1.out hb2)
    clear hb2
    go_wp2_with fail
    go_ret
    exact ⟨by rw [HG.out]; rfl, HT2.out⟩
end Go.Proofs.YtmahiejfniaahaaGreatDoor
