/- HitAt. Written by wip/genaw41.py. -/
import Derived.Test.YtmahiejfniaahaaGreatDoorAw41v
import Derived.Test.YtmahiejfniaahaaGreatDoorHitRv
import Derived.Test.YtmahiejfniaahaaGreatDoorLaw40v
set_option linter.unusedVariables false
set_option linter.unusedSimpArgs false
set_option maxRecDepth 100000
namespace Go.Proofs.YtmahiejfniaahaaGreatDoor
open Go.RowKit

set_option maxHeartbeats 8000000 in
theorem HitAt_walk (t : Tree) (b : Bx) (x y : Int) (A Ak As : Option Addr) (cap ck cs : Nat) (w : World) (hv : SliceR treeE w (Lt w.heap.size) t.kids (.slice A t.kids.length cap)) (hok : NodeOk t) (hb : BoxIn w b Ak As ck cs) (htab : TabOk w) :
    Calls Tryz.prog 6 #[nodeV t A cap, boxV b Ak As ck cs, .agg #[.int .i64 x, .int .i64 y]] w fun e w' => e = .returned (.bool true) ∧ Below w.heap.size w w' := by
  have HTAB := hid htab
  have CAW : Hid (∀ W, Below w.heap.size w W → Calls Tryz.prog 21 #[] W fun e w' => e = .returned (.bool true) ∧ Below W.heap.size W w') := fun W hW => awake41_any W (HTAB.out.below hW)
  have CFW : Hid (∀ W, Below w.heap.size w W → Calls Tryz.prog 22 #[nodeV t A cap, boxV b Ak As ck cs] W fun e w' => e = .returned (.bool (few40S t b)) ∧ Below W.heap.size W w') := fun W hW => few41_any t b A Ak As cap ck cs W (hv.below hW hW.size) (hb.below hW)
  generalize hW0 : ((w.alloc (Obj.cells #[.int .i64 t.kind, .string t.text, .int .i64 t.cols, .slice A t.kids.length cap] 24)).alloc (Obj.cells (boxC b.f (.slice Ak b.kids.length ck) (.slice As b.f.src.length cs)) 28)).alloc (.cells #[.int .i64 x, .int .i64 y] 56) = W0
  have KB : Hid (∀ W, Below W0.heap.size W0 W → Laid2 W w.heap.size w.heap.size t b A Ak As cap ck cs ∧ BoxL W (w.heap.size + 2) 0 [.int .i64 x, .int .i64 y] ∧ Below w.heap.size w W ∧ w.heap.size + 2 < W.heap.size) := fun W hW => by
    have hz0 : W0.heap.size = w.heap.size + 3 := by rw [← hW0]; simp
    have h1 := Laid2.new w t b A Ak As cap ck cs 24 28 hv hb
    have h2 := h1.below (bNew _ (.cells #[.int .i64 x, .int .i64 y] 56)) (by simp) (by simp <;> omega)
    have h3 : Below w.heap.size w W0 := by rw [← hW0]; exact bAl (bAl (bNew _ _) _) _
    have h4 : BoxL W0 (w.heap.size + 2) 0 [.int .i64 x, .int .i64 y] := by rw [← hW0]; exact BoxL.new _ _ _ _ (by simp) _ rfl
    rw [hW0] at h2
    exact ⟨h2.below hW (by omega) (by omega), h4.below hW (by omega), h3.trans (hW.mono h3.size), by have := hW.size; omega⟩
  have CP1 : Hid (few40S t b = true → ∀ W, Below w.heap.size w W → Calls Tryz.prog 23 #[nodeV t A cap, boxV b Ak As ck cs, .int .i64 x, .int .i64 y] W (PosRes W (hitR t b x y))) := fun h W hW => hat_any t b x y A Ak As cap ck cs W (hv.below hW hW.size) hok.2.2 (hb.below hW) (HTAB.out.below hW)
  have CP2 : Hid (few40S t b = true → ∀ W, Below w.heap.size w W → Calls Tryz.prog 24 #[nodeV t A cap, boxV b Ak As ck cs, .int .i64 x, .int .i64 y] W (PosRes W (hitR t b x y))) := fun h W hW => by
    obtain ⟨h1, h2⟩ := few40_cnt h
    exact rhat_any t b x y A Ak As cap ck cs W (hv.below hW hW.size) hok.2.2 (by omega) (hb.below hW) (by omega)
  generalize hitR t b x y = r at *
  clear hv hok hb htab
  cases hf40 : few40S t b with
  | false =>
    rw [hf40] at CFW
    clear hf40 CP1 CP2
    obtain ⟨hl2, hxy, hbw, hgz⟩ := KB.out W0 (Below.refl _ _)
    have m0 := hl2.node 0 _ rfl
    have m1 := hl2.node 1 _ rfl
    have m2 := hl2.node 2 _ rfl
    have m3 := hl2.node 3 _ rfl
    have n0 := hl2.box 0 _ rfl
    have n1 := hl2.box 1 _ rfl
    have n2 := hl2.box 2 _ rfl
    have n3 := hl2.box 3 _ rfl
    have n4 := hl2.box 4 _ rfl
    have n5 := hl2.box 5 _ rfl
    have n6 := hl2.box 6 _ rfl
    have n7 := hl2.box 7 _ rfl
    have n8 := hl2.box 8 _ rfl
    have n9 := hl2.box 9 _ rfl
    have n10 := hl2.box 10 _ rfl
    have r0 := hxy 0 _ rfl
    have r1 := hxy 1 _ rfl
    simp only [Nat.zero_add] at m0 m1 m2 m3 n0 n1 n2 n3 n4 n5 n6 n7 n8 n9 n10 r0 r1
    have HBW_W0 := hid hbw
    clear hl2 hxy hbw hgz
    go_enter Tryz.func6, Tryz.ntmps6
    go_wp2_with fail
    clear hW0
    refine (CAW.out _ HBW_W0.out).mono ?_
    rintro e0 w1 ⟨rfl, hb1⟩
    have HT1 := hid hb1
    clear hb1
    clear m0 m1 m2 m3 n0 n1 n2 n3 n4 n5 n6 n7 n8 n9 n10 r0 r1
    obtain ⟨hl2, hxy, hbw, hgz⟩ := KB.out w1 HT1.out
    have m0 := hl2.node 0 _ rfl
    have m1 := hl2.node 1 _ rfl
    have m2 := hl2.node 2 _ rfl
    have m3 := hl2.node 3 _ rfl
    have n0 := hl2.box 0 _ rfl
    have n1 := hl2.box 1 _ rfl
    have n2 := hl2.box 2 _ rfl
    have n3 := hl2.box 3 _ rfl
    have n4 := hl2.box 4 _ rfl
    have n5 := hl2.box 5 _ rfl
    have n6 := hl2.box 6 _ rfl
    have n7 := hl2.box 7 _ rfl
    have n8 := hl2.box 8 _ rfl
    have n9 := hl2.box 9 _ rfl
    have n10 := hl2.box 10 _ rfl
    have r0 := hxy 0 _ rfl
    have r1 := hxy 1 _ rfl
    simp only [Nat.zero_add] at m0 m1 m2 m3 n0 n1 n2 n3 n4 n5 n6 n7 n8 n9 n10 r0 r1
    have HBW_w1 := hid hbw
    clear hl2 hxy hbw hgz
    go_wp2_with fail
    refine (CFW.out _ HBW_w1.out).mono ?_
    rintro e0 w2 ⟨rfl, hb2⟩
    have HT2 := hid (bCl HT1.out hb2)
    clear hb2
    clear m0 m1 m2 m3 n0 n1 n2 n3 n4 n5 n6 n7 n8 n9 n10 r0 r1
    obtain ⟨hl2, hxy, hbw, hgz⟩ := KB.out w2 HT2.out
    have m0 := hl2.node 0 _ rfl
    have m1 := hl2.node 1 _ rfl
    have m2 := hl2.node 2 _ rfl
    have m3 := hl2.node 3 _ rfl
    have n0 := hl2.box 0 _ rfl
    have n1 := hl2.box 1 _ rfl
    have n2 := hl2.box 2 _ rfl
    have n3 := hl2.box 3 _ rfl
    have n4 := hl2.box 4 _ rfl
    have n5 := hl2.box 5 _ rfl
    have n6 := hl2.box 6 _ rfl
    have n7 := hl2.box 7 _ rfl
    have n8 := hl2.box 8 _ rfl
    have n9 := hl2.box 9 _ rfl
    have n10 := hl2.box 10 _ rfl
    have r0 := hxy 0 _ rfl
    have r1 := hxy 1 _ rfl
    simp only [Nat.zero_add] at m0 m1 m2 m3 n0 n1 n2 n3 n4 n5 n6 n7 n8 n9 n10 r0 r1
    have HBW_w2 := hid hbw
    clear hl2 hxy hbw hgz
    go_wp2_with fail
    go_ret
    exact ⟨rfl, HBW_w2.out⟩
  | true =>
    rw [hf40] at CFW
    have D1 := hid (CP1.out hf40)
    have D2 := hid (CP2.out hf40)
    obtain ⟨ps, er⟩ := r
    clear hf40 CP1 CP2
    obtain ⟨hl2, hxy, hbw, hgz⟩ := KB.out W0 (Below.refl _ _)
    have m0 := hl2.node 0 _ rfl
    have m1 := hl2.node 1 _ rfl
    have m2 := hl2.node 2 _ rfl
    have m3 := hl2.node 3 _ rfl
    have n0 := hl2.box 0 _ rfl
    have n1 := hl2.box 1 _ rfl
    have n2 := hl2.box 2 _ rfl
    have n3 := hl2.box 3 _ rfl
    have n4 := hl2.box 4 _ rfl
    have n5 := hl2.box 5 _ rfl
    have n6 := hl2.box 6 _ rfl
    have n7 := hl2.box 7 _ rfl
    have n8 := hl2.box 8 _ rfl
    have n9 := hl2.box 9 _ rfl
    have n10 := hl2.box 10 _ rfl
    have r0 := hxy 0 _ rfl
    have r1 := hxy 1 _ rfl
    simp only [Nat.zero_add] at m0 m1 m2 m3 n0 n1 n2 n3 n4 n5 n6 n7 n8 n9 n10 r0 r1
    have HBW_W0 := hid hbw
    clear hl2 hxy hbw hgz
    go_enter Tryz.func6, Tryz.ntmps6
    go_wp2_with fail
    clear hW0
    refine (CAW.out _ HBW_W0.out).mono ?_
    rintro e0 w1 ⟨rfl, hb1⟩
    have HT1 := hid hb1
    clear hb1
    clear m0 m1 m2 m3 n0 n1 n2 n3 n4 n5 n6 n7 n8 n9 n10 r0 r1
    obtain ⟨hl2, hxy, hbw, hgz⟩ := KB.out w1 HT1.out
    have m0 := hl2.node 0 _ rfl
    have m1 := hl2.node 1 _ rfl
    have m2 := hl2.node 2 _ rfl
    have m3 := hl2.node 3 _ rfl
    have n0 := hl2.box 0 _ rfl
    have n1 := hl2.box 1 _ rfl
    have n2 := hl2.box 2 _ rfl
    have n3 := hl2.box 3 _ rfl
    have n4 := hl2.box 4 _ rfl
    have n5 := hl2.box 5 _ rfl
    have n6 := hl2.box 6 _ rfl
    have n7 := hl2.box 7 _ rfl
    have n8 := hl2.box 8 _ rfl
    have n9 := hl2.box 9 _ rfl
    have n10 := hl2.box 10 _ rfl
    have r0 := hxy 0 _ rfl
    have r1 := hxy 1 _ rfl
    simp only [Nat.zero_add] at m0 m1 m2 m3 n0 n1 n2 n3 n4 n5 n6 n7 n8 n9 n10 r0 r1
    have HBW_w1 := hid hbw
    clear hl2 hxy hbw hgz
    go_wp2_with fail
    refine (CFW.out _ HBW_w1.out).mono ?_
    rintro e0 w2 ⟨rfl, hb2⟩
    have HT2 := hid (bCl HT1.out hb2)
    clear hb2
    clear m0 m1 m2 m3 n0 n1 n2 n3 n4 n5 n6 n7 n8 n9 n10 r0 r1
    obtain ⟨hl2, hxy, hbw, hgz⟩ := KB.out w2 HT2.out
    have m0 := hl2.node 0 _ rfl
    have m1 := hl2.node 1 _ rfl
    have m2 := hl2.node 2 _ rfl
    have m3 := hl2.node 3 _ rfl
    have n0 := hl2.box 0 _ rfl
    have n1 := hl2.box 1 _ rfl
    have n2 := hl2.box 2 _ rfl
    have n3 := hl2.box 3 _ rfl
    have n4 := hl2.box 4 _ rfl
    have n5 := hl2.box 5 _ rfl
    have n6 := hl2.box 6 _ rfl
    have n7 := hl2.box 7 _ rfl
    have n8 := hl2.box 8 _ rfl
    have n9 := hl2.box 9 _ rfl
    have n10 := hl2.box 10 _ rfl
    have r0 := hxy 0 _ rfl
    have r1 := hxy 1 _ rfl
    simp only [Nat.zero_add] at m0 m1 m2 m3 n0 n1 n2 n3 n4 n5 n6 n7 n8 n9 n10 r0 r1
    have HBW_w2 := hid hbw
    clear hl2 hxy hbw hgz
    go_wp2_with fail
    refine (D1.out _ HBW_w2.out).mono ?_
    rintro e0 w3 ⟨hb3, v3, rfl, hi3⟩
    obtain ⟨A3, c3, hv3⟩ := hi3.form
    subst hv3
    have HT3 := hid (bCl HT2.out hb3)
    have HI3 : Hid (IntsR w3 (Lt w3.heap.size) ps (.slice A3 ps.length c3)) := hi3.keep (fun _ _ => rfl) (fun k hk => hk.2)
    clear hb3 hi3
    clear m0 m1 m2 m3 n0 n1 n2 n3 n4 n5 n6 n7 n8 n9 n10 r0 r1
    obtain ⟨hl2, hxy, hbw, hgz⟩ := KB.out w3 HT3.out
    have m0 := hl2.node 0 _ rfl
    have m1 := hl2.node 1 _ rfl
    have m2 := hl2.node 2 _ rfl
    have m3 := hl2.node 3 _ rfl
    have n0 := hl2.box 0 _ rfl
    have n1 := hl2.box 1 _ rfl
    have n2 := hl2.box 2 _ rfl
    have n3 := hl2.box 3 _ rfl
    have n4 := hl2.box 4 _ rfl
    have n5 := hl2.box 5 _ rfl
    have n6 := hl2.box 6 _ rfl
    have n7 := hl2.box 7 _ rfl
    have n8 := hl2.box 8 _ rfl
    have n9 := hl2.box 9 _ rfl
    have n10 := hl2.box 10 _ rfl
    have r0 := hxy 0 _ rfl
    have r1 := hxy 1 _ rfl
    simp only [Nat.zero_add] at m0 m1 m2 m3 n0 n1 n2 n3 n4 n5 n6 n7 n8 n9 n10 r0 r1
    have HBW_w3 := hid hbw
    clear hl2 hxy hbw hgz
    go_wp2_with fail
    refine (D2.out _ HBW_w3.out).mono ?_
    rintro e0 w4 ⟨hb4, v4, rfl, hi4⟩
    obtain ⟨A4, c4, hv4⟩ := hi4.form
    subst hv4
    have HT4 := hid (bCl HT3.out hb4)
    have HI4 : Hid (IntsR w4 (Lt w4.heap.size) ps (.slice A4 ps.length c4)) := hi4.keep (fun _ _ => rfl) (fun k hk => hk.2)
    have HJ4 := hid (HI3.out.below hb4 hb4.size)
    clear hb4 hi4
    clear m0 m1 m2 m3 n0 n1 n2 n3 n4 n5 n6 n7 n8 n9 n10 r0 r1
    have CSM : Hid (Calls Tryz.prog 25 #[.slice A3 ps.length c3, .slice A4 ps.length c4] w4 fun e w' => e = .returned (.bool true) ∧ ∃ n, w' = w4.drewN n) := by
      have h := sameI_q ps ps w4 _ _ A3 A4 c3 c4 HJ4.out HI4.out
      rw [decide_eq_true rfl] at h
      exact h
    go_wp2_with fail
    refine CSM.out.mono ?_
    rintro e0 w5 ⟨rfl, n5, rfl⟩
    go_wp2_with fail
    go_ret
    exact ⟨rfl, bDn (KB.out _ HT4.out).2.2.1 _⟩
end Go.Proofs.YtmahiejfniaahaaGreatDoor
