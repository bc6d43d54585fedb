/- Texts put together: RMo, LwMo. -/
import Derived.Test.YtmahiejfniaahaaGreatDoorMov42hv
import Derived.Test.YtmahiejfniaahaaGreatDoorMov42kv
import Derived.Test.YtmahiejfniaahaaGreatDoorMovVv
import Derived.Test.YtmahiejfniaahaaGreatDoorAwk42v
import Derived.Test.YtmahiejfniaahaaGreatDoorGN
import Derived.Test.YtmahiejfniaahaaGreatDoorLaw40v
set_option linter.unusedVariables false
set_option linter.unusedSimpArgs false
set_option maxRecDepth 100000
namespace Go.Proofs.YtmahiejfniaahaaGreatDoor
open Go.RowKit
theorem rmove_any (t : Tree) (b : Bx) (p : List Int) (d : Int) (A Ak As Ap : Option Addr) (cap ck cs cp : Nat) (w : World) (hv : SliceR treeE w (Lt w.heap.size) t.kids (.slice A t.kids.length cap)) (hok : NodeOk t) (hct : countS t ≤ 900000) (hb : BoxIn w b Ak As ck cs) (hcb : cntB b ≤ 1000000) (hp : IntsR w (Lt w.heap.size) p (.slice Ap p.length cp)) :
    Calls Tryz.prog 30 #[nodeV t A cap, boxV b Ak As ck cs, .slice Ap p.length cp, .int .i64 d] w (PosRes w (moveR t b p d)) := by
  by_cases hgood : validS t = true ∧ validB b = true ∧ posIn t p = true ∧ 0 ≤ d ∧ d ≤ 5
  · obtain ⟨h1, h2, h3, h4, h5⟩ := hgood
    have hR : moveR t b p d = if d = 4 then vertR t b p 1 else if d = 5 then vertR t b p (-1) else moveS t p d := by
      rw [moveR, if_neg (by simp [h1, h2]), if_neg (by simp [h3, h4, h5])]
    rw [hR]
    clear hR
    have hd : d = 0 ∨ d = 1 ∨ d = 2 ∨ d = 3 ∨ d = 4 ∨ d = 5 := by omega
    rcases hd with rfl | rfl | rfl | rfl | rfl | rfl
    · exact rmove0_any t b p A Ak As Ap cap ck cs cp w hv hok hct hb hcb hp h1 h2 h3
    · exact rmove1_any t b p A Ak As Ap cap ck cs cp w hv hok hct hb hcb hp h1 h2 h3
    · exact rmove2_any t b p A Ak As Ap cap ck cs cp w hv hok hct hb hcb hp h1 h2 h3
    · exact rmove3_any t b p A Ak As Ap cap ck cs cp w hv hok hct hb hcb hp h1 h2 h3
    · exact rmove4_any t b p A Ak As Ap cap ck cs cp w hv hok hct hb hcb hp h1 h2 h3
    · exact rmove5_any t b p A Ak As Ap cap ck cs cp w hv hok hct hb hcb hp h1 h2 h3
  · exact rmove_err t b p d A Ak As Ap cap ck cs cp w hv hok hct hb hcb hp hgood
end Go.Proofs.YtmahiejfniaahaaGreatDoor
set_option linter.unusedVariables false
set_option linter.unusedSimpArgs false
set_option maxRecDepth 100000
namespace Go.Proofs.YtmahiejfniaahaaGreatDoor
open Go.RowKit
set_option maxHeartbeats 8000000 in
theorem ArrowMove_walk (t : Tree) (b : Bx) (p : List Int) (d : Int) (A Ak As Ap : Option Addr) (cap ck cs cp : Nat) (w : World) (hv : SliceR treeE w (Lt w.heap.size) t.kids (.slice A t.kids.length cap)) (hok : NodeOk t) (hb : BoxIn w b Ak As ck cs) (hp : IntsR w (Lt w.heap.size) p (.slice Ap p.length cp)) (htab : TabOk w) :
    Calls Tryz.prog 7 #[nodeV t A cap, boxV b Ak As ck cs, .agg #[.slice Ap p.length cp, .int .i64 d]] w fun e w' => e = .returned (.bool true) ∧ Below w.heap.size w w' := by
  have CAW : Hid (∀ W, Below w.heap.size w W → Calls Tryz.prog 26 #[] W fun e w' => e = .returned (.bool true) ∧ Below W.heap.size W w') := fun W hW => awake42_any W
  have CF9 : Hid (∀ W, Below w.heap.size w W → Calls Tryz.prog 27 #[nodeV t A cap, .int .i64 40] W fun e w' => e = .returned (.bool (fewS t 40)) ∧ Below W.heap.size W w') := fun W hW => few_any t W _ 40 (hv.below hW hW.size) (by omega) (by omega)
  have CF28 : Hid (∀ W, Below w.heap.size w W → Calls Tryz.prog 28 #[boxV b Ak As ck cs, .int .i64 2000] W fun e w' => e = .returned (.bool (fewB b 2000)) ∧ Below W.heap.size W w') := fun W hW => few28_any b Ak As ck cs W 2000 (hb.below hW).kids (by omega) (by omega)
  generalize hW0 : ((w.alloc (Obj.cells #[.int .i64 t.kind, .string t.text, .int .i64 t.cols, .slice A t.kids.length cap] 24)).alloc (Obj.cells (boxC b.f (.slice Ak b.kids.length ck) (.slice As b.f.src.length cs)) 28)).alloc (.cells #[.slice Ap p.length cp, .int .i64 d] 62) = W0
  have KB : Hid (∀ W, Below W0.heap.size W0 W → Laid2 W w.heap.size w.heap.size t b A Ak As cap ck cs ∧ BoxL W (w.heap.size + 2) 0 [.slice Ap p.length cp, .int .i64 d] ∧ Below w.heap.size w W ∧ w.heap.size + 2 < W.heap.size) := fun W hW => by
    have hz0 : W0.heap.size = w.heap.size + 3 := by rw [← hW0]; simp
    have h1 := Laid2.new w t b A Ak As cap ck cs 24 28 hv hb
    have h2 := h1.below (bNew _ (.cells #[.slice Ap p.length cp, .int .i64 d] 62)) (by simp) (by simp <;> omega)
    have h3 : Below w.heap.size w W0 := by rw [← hW0]; exact bAl (bAl (bNew _ _) _) _
    have h4 : BoxL W0 (w.heap.size + 2) 0 [.slice Ap p.length cp, .int .i64 d] := by rw [← hW0]; exact BoxL.new _ _ _ _ (by simp) _ rfl
    rw [hW0] at h2
    exact ⟨h2.below hW (by omega) (by omega), h4.below hW (by omega), h3.trans (hW.mono h3.size), by have := hW.size; omega⟩
  have CP1 : Hid (∀ W, Below w.heap.size w W → Calls Tryz.prog 29 #[nodeV t A cap, boxV b Ak As ck cs, .slice Ap p.length cp, .int .i64 d] W (PosRes W (moveR t b p d))) := fun W hW => move_any t b p d A Ak As Ap cap ck cs cp W (hv.below hW hW.size) hok (hb.below hW) (hp.below hW hW.size) (htab.below hW)
  have CP2 : Hid (few40S t b = true → ∀ W, Below w.heap.size w W → Calls Tryz.prog 30 #[nodeV t A cap, boxV b Ak As ck cs, .slice Ap p.length cp, .int .i64 d] W (PosRes W (moveR t b p d))) := fun h W hW => by
    obtain ⟨h1, h2⟩ := few40_cnt h
    exact rmove_any t b p d A Ak As Ap cap ck cs cp W (hv.below hW hW.size) hok (by omega) (hb.below hW) (by omega) (hp.below hW hW.size)
  have HF : Hid (few40S t b = (fewS t 40 && fewB b 2000)) := rfl
  generalize moveR t b p d = r at *
  generalize few40S t b = R at *
  generalize fewS t 40 = b1 at *
  generalize fewB b 2000 = b2 at *
  clear hv hok hb hp htab
  cases b1 with
  | false =>
    clear CP1 CP2
    obtain ⟨hl2, hxy, hbw, hgz⟩ := KB.out W0 (Below.refl _ _)
    have m0 := hl2.node 0 _ rfl
    have m1 := hl2.node 1 _ rfl
    have m2 := hl2.node 2 _ rfl
    have m3 := hl2.node 3 _ rfl
    have n0 := hl2.box 0 _ rfl
    have n1 := hl2.box 1 _ rfl
    have n2 := hl2.box 2 _ rfl
    have n3 := hl2.box 3 _ rfl
    have n4 := hl2.box 4 _ rfl
    have n5 := hl2.box 5 _ rfl
    have n6 := hl2.box 6 _ rfl
    have n7 := hl2.box 7 _ rfl
    have n8 := hl2.box 8 _ rfl
    have n9 := hl2.box 9 _ rfl
    have n10 := hl2.box 10 _ rfl
    have r0 := hxy 0 _ rfl
    have r1 := hxy 1 _ rfl
    simp only [Nat.zero_add] at m0 m1 m2 m3 n0 n1 n2 n3 n4 n5 n6 n7 n8 n9 n10 r0 r1
    have HBW_W0 := hid hbw
    clear hl2 hxy hbw hgz
    go_enter Tryz.func7, Tryz.ntmps7
    go_wp2_with fail
    clear hW0
    refine (CAW.out _ HBW_W0.out).mono ?_
    rintro e0 w1 ⟨rfl, hb1⟩
    have HT1 := hid (hb1)
    clear hb1
    clear m0 m1 m2 m3 n0 n1 n2 n3 n4 n5 n6 n7 n8 n9 n10 r0 r1
    obtain ⟨hl2, hxy, hbw, hgz⟩ := KB.out w1 HT1.out
    have m0 := hl2.node 0 _ rfl
    have m1 := hl2.node 1 _ rfl
    have m2 := hl2.node 2 _ rfl
    have m3 := hl2.node 3 _ rfl
    have n0 := hl2.box 0 _ rfl
    have n1 := hl2.box 1 _ rfl
    have n2 := hl2.box 2 _ rfl
    have n3 := hl2.box 3 _ rfl
    have n4 := hl2.box 4 _ rfl
    have n5 := hl2.box 5 _ rfl
    have n6 := hl2.box 6 _ rfl
    have n7 := hl2.box 7 _ rfl
    have n8 := hl2.box 8 _ rfl
    have n9 := hl2.box 9 _ rfl
    have n10 := hl2.box 10 _ rfl
    have r0 := hxy 0 _ rfl
    have r1 := hxy 1 _ rfl
    simp only [Nat.zero_add] at m0 m1 m2 m3 n0 n1 n2 n3 n4 n5 n6 n7 n8 n9 n10 r0 r1
    have HBW_w1 := hid hbw
    clear hl2 hxy hbw hgz
    go_wp2_with fail
    refine (CF9.out _ HBW_w1.out).mono ?_
    rintro e0 w2 ⟨rfl, hb2⟩
    have HT2 := hid (bCl HT1.out hb2)
    clear hb2
    clear m0 m1 m2 m3 n0 n1 n2 n3 n4 n5 n6 n7 n8 n9 n10 r0 r1
    obtain ⟨hl2, hxy, hbw, hgz⟩ := KB.out w2 HT2.out
    have m0 := hl2.node 0 _ rfl
    have m1 := hl2.node 1 _ rfl
    have m2 := hl2.node 2 _ rfl
    have m3 := hl2.node 3 _ rfl
    have n0 := hl2.box 0 _ rfl
    have n1 := hl2.box 1 _ rfl
    have n2 := hl2.box 2 _ rfl
    have n3 := hl2.box 3 _ rfl
    have n4 := hl2.box 4 _ rfl
    have n5 := hl2.box 5 _ rfl
    have n6 := hl2.box 6 _ rfl
    have n7 := hl2.box 7 _ rfl
    have n8 := hl2.box 8 _ rfl
    have n9 := hl2.box 9 _ rfl
    have n10 := hl2.box 10 _ rfl
    have r0 := hxy 0 _ rfl
    have r1 := hxy 1 _ rfl
    simp only [Nat.zero_add] at m0 m1 m2 m3 n0 n1 n2 n3 n4 n5 n6 n7 n8 n9 n10 r0 r1
    have HBW_w2 := hid hbw
    clear hl2 hxy hbw hgz
    go_wp2_with fail
    go_ret
    exact ⟨rfl, HBW_w2.out⟩
  | true =>
    cases b2 with
    | false =>
      clear CP1 CP2
      obtain ⟨hl2, hxy, hbw, hgz⟩ := KB.out W0 (Below.refl _ _)
      have m0 := hl2.node 0 _ rfl
      have m1 := hl2.node 1 _ rfl
      have m2 := hl2.node 2 _ rfl
      have m3 := hl2.node 3 _ rfl
      have n0 := hl2.box 0 _ rfl
      have n1 := hl2.box 1 _ rfl
      have n2 := hl2.box 2 _ rfl
      have n3 := hl2.box 3 _ rfl
      have n4 := hl2.box 4 _ rfl
      have n5 := hl2.box 5 _ rfl
      have n6 := hl2.box 6 _ rfl
      have n7 := hl2.box 7 _ rfl
      have n8 := hl2.box 8 _ rfl
      have n9 := hl2.box 9 _ rfl
      have n10 := hl2.box 10 _ rfl
      have r0 := hxy 0 _ rfl
      have r1 := hxy 1 _ rfl
      simp only [Nat.zero_add] at m0 m1 m2 m3 n0 n1 n2 n3 n4 n5 n6 n7 n8 n9 n10 r0 r1
      have HBW_W0 := hid hbw
      clear hl2 hxy hbw hgz
      go_enter Tryz.func7, Tryz.ntmps7
      go_wp2_with fail
      clear hW0
      refine (CAW.out _ HBW_W0.out).mono ?_
      rintro e0 w1 ⟨rfl, hb1⟩
      have HT1 := hid (hb1)
      clear hb1
      clear m0 m1 m2 m3 n0 n1 n2 n3 n4 n5 n6 n7 n8 n9 n10 r0 r1
      obtain ⟨hl2, hxy, hbw, hgz⟩ := KB.out w1 HT1.out
      have m0 := hl2.node 0 _ rfl
      have m1 := hl2.node 1 _ rfl
      have m2 := hl2.node 2 _ rfl
      have m3 := hl2.node 3 _ rfl
      have n0 := hl2.box 0 _ rfl
      have n1 := hl2.box 1 _ rfl
      have n2 := hl2.box 2 _ rfl
      have n3 := hl2.box 3 _ rfl
      have n4 := hl2.box 4 _ rfl
      have n5 := hl2.box 5 _ rfl
      have n6 := hl2.box 6 _ rfl
      have n7 := hl2.box 7 _ rfl
      have n8 := hl2.box 8 _ rfl
      have n9 := hl2.box 9 _ rfl
      have n10 := hl2.box 10 _ rfl
      have r0 := hxy 0 _ rfl
      have r1 := hxy 1 _ rfl
      simp only [Nat.zero_add] at m0 m1 m2 m3 n0 n1 n2 n3 n4 n5 n6 n7 n8 n9 n10 r0 r1
      have HBW_w1 := hid hbw
      clear hl2 hxy hbw hgz
      go_wp2_with fail
      refine (CF9.out _ HBW_w1.out).mono ?_
      rintro e0 w2 ⟨rfl, hb2⟩
      have HT2 := hid (bCl HT1.out hb2)
      clear hb2
      clear m0 m1 m2 m3 n0 n1 n2 n3 n4 n5 n6 n7 n8 n9 n10 r0 r1
      obtain ⟨hl2, hxy, hbw, hgz⟩ := KB.out w2 HT2.out
      have m0 := hl2.node 0 _ rfl
      have m1 := hl2.node 1 _ rfl
      have m2 := hl2.node 2 _ rfl
      have m3 := hl2.node 3 _ rfl
      have n0 := hl2.box 0 _ rfl
      have n1 := hl2.box 1 _ rfl
      have n2 := hl2.box 2 _ rfl
      have n3 := hl2.box 3 _ rfl
      have n4 := hl2.box 4 _ rfl
      have n5 := hl2.box 5 _ rfl
      have n6 := hl2.box 6 _ rfl
      have n7 := hl2.box 7 _ rfl
      have n8 := hl2.box 8 _ rfl
      have n9 := hl2.box 9 _ rfl
      have n10 := hl2.box 10 _ rfl
      have r0 := hxy 0 _ rfl
      have r1 := hxy 1 _ rfl
      simp only [Nat.zero_add] at m0 m1 m2 m3 n0 n1 n2 n3 n4 n5 n6 n7 n8 n9 n10 r0 r1
      have HBW_w2 := hid hbw
      clear hl2 hxy hbw hgz
      go_wp2_with fail
      refine (CF28.out _ HBW_w2.out).mono ?_
      rintro e0 w3 ⟨rfl, hb3⟩
      have HT3 := hid (bCl HT2.out hb3)
      clear hb3
      clear m0 m1 m2 m3 n0 n1 n2 n3 n4 n5 n6 n7 n8 n9 n10 r0 r1
      obtain ⟨hl2, hxy, hbw, hgz⟩ := KB.out w3 HT3.out
      have m0 := hl2.node 0 _ rfl
      have m1 := hl2.node 1 _ rfl
      have m2 := hl2.node 2 _ rfl
      have m3 := hl2.node 3 _ rfl
      have n0 := hl2.box 0 _ rfl
      have n1 := hl2.box 1 _ rfl
      have n2 := hl2.box 2 _ rfl
      have n3 := hl2.box 3 _ rfl
      have n4 := hl2.box 4 _ rfl
      have n5 := hl2.box 5 _ rfl
      have n6 := hl2.box 6 _ rfl
      have n7 := hl2.box 7 _ rfl
      have n8 := hl2.box 8 _ rfl
      have n9 := hl2.box 9 _ rfl
      have n10 := hl2.box 10 _ rfl
      have r0 := hxy 0 _ rfl
      have r1 := hxy 1 _ rfl
      simp only [Nat.zero_add] at m0 m1 m2 m3 n0 n1 n2 n3 n4 n5 n6 n7 n8 n9 n10 r0 r1
      have HBW_w3 := hid hbw
      clear hl2 hxy hbw hgz
      go_wp2_with fail
      go_ret
      exact ⟨rfl, HBW_w3.out⟩
    | true =>
      by_cases hlen : p.length ≤ 60
      · have i60 : decide ((60 : Int) < (p.length : Int)) = false := decide_eq_false (by omega)
        have i61 : ¬ ((60 : Int) < (p.length : Int)) := by omega
        have D1 := hid CP1.out
        have D2 := hid (CP2.out HF.out)
        obtain ⟨ps, er⟩ := r
        clear CP1 CP2 HF
        obtain ⟨hl2, hxy, hbw, hgz⟩ := KB.out W0 (Below.refl _ _)
        have m0 := hl2.node 0 _ rfl
        have m1 := hl2.node 1 _ rfl
        have m2 := hl2.node 2 _ rfl
        have m3 := hl2.node 3 _ rfl
        have n0 := hl2.box 0 _ rfl
        have n1 := hl2.box 1 _ rfl
        have n2 := hl2.box 2 _ rfl
        have n3 := hl2.box 3 _ rfl
        have n4 := hl2.box 4 _ rfl
        have n5 := hl2.box 5 _ rfl
        have n6 := hl2.box 6 _ rfl
        have n7 := hl2.box 7 _ rfl
        have n8 := hl2.box 8 _ rfl
        have n9 := hl2.box 9 _ rfl
        have n10 := hl2.box 10 _ rfl
        have r0 := hxy 0 _ rfl
        have r1 := hxy 1 _ rfl
        simp only [Nat.zero_add] at m0 m1 m2 m3 n0 n1 n2 n3 n4 n5 n6 n7 n8 n9 n10 r0 r1
        have HBW_W0 := hid hbw
        clear hl2 hxy hbw hgz
        go_enter Tryz.func7, Tryz.ntmps7
        go_wp2_with fail
        clear hW0
        refine (CAW.out _ HBW_W0.out).mono ?_
        rintro e0 w1 ⟨rfl, hb1⟩
        have HT1 := hid (hb1)
        clear hb1
        clear m0 m1 m2 m3 n0 n1 n2 n3 n4 n5 n6 n7 n8 n9 n10 r0 r1
        obtain ⟨hl2, hxy, hbw, hgz⟩ := KB.out w1 HT1.out
        have m0 := hl2.node 0 _ rfl
        have m1 := hl2.node 1 _ rfl
        have m2 := hl2.node 2 _ rfl
        have m3 := hl2.node 3 _ rfl
        have n0 := hl2.box 0 _ rfl
        have n1 := hl2.box 1 _ rfl
        have n2 := hl2.box 2 _ rfl
        have n3 := hl2.box 3 _ rfl
        have n4 := hl2.box 4 _ rfl
        have n5 := hl2.box 5 _ rfl
        have n6 := hl2.box 6 _ rfl
        have n7 := hl2.box 7 _ rfl
        have n8 := hl2.box 8 _ rfl
        have n9 := hl2.box 9 _ rfl
        have n10 := hl2.box 10 _ rfl
        have r0 := hxy 0 _ rfl
        have r1 := hxy 1 _ rfl
        simp only [Nat.zero_add] at m0 m1 m2 m3 n0 n1 n2 n3 n4 n5 n6 n7 n8 n9 n10 r0 r1
        have HBW_w1 := hid hbw
        clear hl2 hxy hbw hgz
        go_wp2_with fail
        refine (CF9.out _ HBW_w1.out).mono ?_
        rintro e0 w2 ⟨rfl, hb2⟩
        have HT2 := hid (bCl HT1.out hb2)
        clear hb2
        clear m0 m1 m2 m3 n0 n1 n2 n3 n4 n5 n6 n7 n8 n9 n10 r0 r1
        obtain ⟨hl2, hxy, hbw, hgz⟩ := KB.out w2 HT2.out
        have m0 := hl2.node 0 _ rfl
        have m1 := hl2.node 1 _ rfl
        have m2 := hl2.node 2 _ rfl
        have m3 := hl2.node 3 _ rfl
        have n0 := hl2.box 0 _ rfl
        have n1 := hl2.box 1 _ rfl
        have n2 := hl2.box 2 _ rfl
        have n3 := hl2.box 3 _ rfl
        have n4 := hl2.box 4 _ rfl
        have n5 := hl2.box 5 _ rfl
        have n6 := hl2.box 6 _ rfl
        have n7 := hl2.box 7 _ rfl
        have n8 := hl2.box 8 _ rfl
        have n9 := hl2.box 9 _ rfl
        have n10 := hl2.box 10 _ rfl
        have r0 := hxy 0 _ rfl
        have r1 := hxy 1 _ rfl
        simp only [Nat.zero_add] at m0 m1 m2 m3 n0 n1 n2 n3 n4 n5 n6 n7 n8 n9 n10 r0 r1
        have HBW_w2 := hid hbw
        clear hl2 hxy hbw hgz
        go_wp2_with fail
        refine (CF28.out _ HBW_w2.out).mono ?_
        rintro e0 w3 ⟨rfl, hb3⟩
        have HT3 := hid (bCl HT2.out hb3)
        clear hb3
        clear m0 m1 m2 m3 n0 n1 n2 n3 n4 n5 n6 n7 n8 n9 n10 r0 r1
        obtain ⟨hl2, hxy, hbw, hgz⟩ := KB.out w3 HT3.out
        have m0 := hl2.node 0 _ rfl
        have m1 := hl2.node 1 _ rfl
        have m2 := hl2.node 2 _ rfl
        have m3 := hl2.node 3 _ rfl
        have n0 := hl2.box 0 _ rfl
        have n1 := hl2.box 1 _ rfl
        have n2 := hl2.box 2 _ rfl
        have n3 := hl2.box 3 _ rfl
        have n4 := hl2.box 4 _ rfl
        have n5 := hl2.box 5 _ rfl
        have n6 := hl2.box 6 _ rfl
        have n7 := hl2.box 7 _ rfl
        have n8 := hl2.box 8 _ rfl
        have n9 := hl2.box 9 _ rfl
        have n10 := hl2.box 10 _ rfl
        have r0 := hxy 0 _ rfl
        have r1 := hxy 1 _ rfl
        simp only [Nat.zero_add] at m0 m1 m2 m3 n0 n1 n2 n3 n4 n5 n6 n7 n8 n9 n10 r0 r1
        have HBW_w3 := hid hbw
        clear hl2 hxy hbw hgz
        go_wp2_with fail
        refine (D1.out _ HBW_w3.out).mono ?_
        rintro e0 w4 ⟨hb4, v4, rfl, hi4⟩
        obtain ⟨A4, c4, hv4⟩ := hi4.form
        subst hv4
        have HT4 := hid (bCl HT3.out hb4)
        have HI4 : Hid (IntsR w4 (Lt w4.heap.size) ps (.slice A4 ps.length c4)) := hi4.keep (fun _ _ => rfl) (fun k hk => hk.2)
        clear hb4 hi4
        clear m0 m1 m2 m3 n0 n1 n2 n3 n4 n5 n6 n7 n8 n9 n10 r0 r1
        obtain ⟨hl2, hxy, hbw, hgz⟩ := KB.out w4 HT4.out
        have m0 := hl2.node 0 _ rfl
        have m1 := hl2.node 1 _ rfl
        have m2 := hl2.node 2 _ rfl
        have m3 := hl2.node 3 _ rfl
        have n0 := hl2.box 0 _ rfl
        have n1 := hl2.box 1 _ rfl
        have n2 := hl2.box 2 _ rfl
        have n3 := hl2.box 3 _ rfl
        have n4 := hl2.box 4 _ rfl
        have n5 := hl2.box 5 _ rfl
        have n6 := hl2.box 6 _ rfl
        have n7 := hl2.box 7 _ rfl
        have n8 := hl2.box 8 _ rfl
        have n9 := hl2.box 9 _ rfl
        have n10 := hl2.box 10 _ rfl
        have r0 := hxy 0 _ rfl
        have r1 := hxy 1 _ rfl
        simp only [Nat.zero_add] at m0 m1 m2 m3 n0 n1 n2 n3 n4 n5 n6 n7 n8 n9 n10 r0 r1
        have HBW_w4 := hid hbw
        clear hl2 hxy hbw hgz
        go_wp2_with fail
        refine (D2.out _ HBW_w4.out).mono ?_
        rintro e0 w5 ⟨hb5, v5, rfl, hi5⟩
        obtain ⟨A5, c5, hv5⟩ := hi5.form
        subst hv5
        have HT5 := hid (bCl HT4.out hb5)
        have HI5 : Hid (IntsR w5 (Lt w5.heap.size) ps (.slice A5 ps.length c5)) := hi5.keep (fun _ _ => rfl) (fun k hk => hk.2)
        have HJ5 := hid (HI4.out.below hb5 hb5.size)
        clear hb5 hi5
        clear m0 m1 m2 m3 n0 n1 n2 n3 n4 n5 n6 n7 n8 n9 n10 r0 r1
        have CSM : Hid (Calls Tryz.prog 25 #[.slice A4 ps.length c4, .slice A5 ps.length c5] w5 fun e w' => e = .returned (.bool true) ∧ ∃ n, w' = w5.drewN n) := by
          have h := sameI_q ps ps w5 _ _ A4 A5 c4 c5 HJ5.out HI5.out
          rw [decide_eq_true rfl] at h
          exact h
        go_wp2_with fail
        refine CSM.out.mono ?_
        rintro e0 w6 ⟨rfl, n6, rfl⟩
        go_wp2_with fail
        go_ret
        exact ⟨rfl, bDn (KB.out _ HT5.out).2.2.1 _⟩
      · have i60 : decide ((60 : Int) < (p.length : Int)) = true := decide_eq_true (by omega)
        have i61 : ((60 : Int) < (p.length : Int)) := by omega
        clear CP1 CP2
        obtain ⟨hl2, hxy, hbw, hgz⟩ := KB.out W0 (Below.refl _ _)
        have m0 := hl2.node 0 _ rfl
        have m1 := hl2.node 1 _ rfl
        have m2 := hl2.node 2 _ rfl
        have m3 := hl2.node 3 _ rfl
        have n0 := hl2.box 0 _ rfl
        have n1 := hl2.box 1 _ rfl
        have n2 := hl2.box 2 _ rfl
        have n3 := hl2.box 3 _ rfl
        have n4 := hl2.box 4 _ rfl
        have n5 := hl2.box 5 _ rfl
        have n6 := hl2.box 6 _ rfl
        have n7 := hl2.box 7 _ rfl
        have n8 := hl2.box 8 _ rfl
        have n9 := hl2.box 9 _ rfl
        have n10 := hl2.box 10 _ rfl
        have r0 := hxy 0 _ rfl
        have r1 := hxy 1 _ rfl
        simp only [Nat.zero_add] at m0 m1 m2 m3 n0 n1 n2 n3 n4 n5 n6 n7 n8 n9 n10 r0 r1
        have HBW_W0 := hid hbw
        clear hl2 hxy hbw hgz
        go_enter Tryz.func7, Tryz.ntmps7
        go_wp2_with fail
        clear hW0
        refine (CAW.out _ HBW_W0.out).mono ?_
        rintro e0 w1 ⟨rfl, hb1⟩
        have HT1 := hid (hb1)
        clear hb1
        clear m0 m1 m2 m3 n0 n1 n2 n3 n4 n5 n6 n7 n8 n9 n10 r0 r1
        obtain ⟨hl2, hxy, hbw, hgz⟩ := KB.out w1 HT1.out
        have m0 := hl2.node 0 _ rfl
        have m1 := hl2.node 1 _ rfl
        have m2 := hl2.node 2 _ rfl
        have m3 := hl2.node 3 _ rfl
        have n0 := hl2.box 0 _ rfl
        have n1 := hl2.box 1 _ rfl
        have n2 := hl2.box 2 _ rfl
        have n3 := hl2.box 3 _ rfl
        have n4 := hl2.box 4 _ rfl
        have n5 := hl2.box 5 _ rfl
        have n6 := hl2.box 6 _ rfl
        have n7 := hl2.box 7 _ rfl
        have n8 := hl2.box 8 _ rfl
        have n9 := hl2.box 9 _ rfl
        have n10 := hl2.box 10 _ rfl
        have r0 := hxy 0 _ rfl
        have r1 := hxy 1 _ rfl
        simp only [Nat.zero_add] at m0 m1 m2 m3 n0 n1 n2 n3 n4 n5 n6 n7 n8 n9 n10 r0 r1
        have HBW_w1 := hid hbw
        clear hl2 hxy hbw hgz
        go_wp2_with fail
        refine (CF9.out _ HBW_w1.out).mono ?_
        rintro e0 w2 ⟨rfl, hb2⟩
        have HT2 := hid (bCl HT1.out hb2)
        clear hb2
        clear m0 m1 m2 m3 n0 n1 n2 n3 n4 n5 n6 n7 n8 n9 n10 r0 r1
        obtain ⟨hl2, hxy, hbw, hgz⟩ := KB.out w2 HT2.out
        have m0 := hl2.node 0 _ rfl
        have m1 := hl2.node 1 _ rfl
        have m2 := hl2.node 2 _ rfl
        have m3 := hl2.node 3 _ rfl
        have n0 := hl2.box 0 _ rfl
        have n1 := hl2.box 1 _ rfl
        have n2 := hl2.box 2 _ rfl
        have n3 := hl2.box 3 _ rfl
        have n4 := hl2.box 4 _ rfl
        have n5 := hl2.box 5 _ rfl
        have n6 := hl2.box 6 _ rfl
        have n7 := hl2.box 7 _ rfl
        have n8 := hl2.box 8 _ rfl
        have n9 := hl2.box 9 _ rfl
        have n10 := hl2.box 10 _ rfl
        have r0 := hxy 0 _ rfl
        have r1 := hxy 1 _ rfl
        simp only [Nat.zero_add] at m0 m1 m2 m3 n0 n1 n2 n3 n4 n5 n6 n7 n8 n9 n10 r0 r1
        have HBW_w2 := hid hbw
        clear hl2 hxy hbw hgz
        go_wp2_with fail
        refine (CF28.out _ HBW_w2.out).mono ?_
        rintro e0 w3 ⟨rfl, hb3⟩
        have HT3 := hid (bCl HT2.out hb3)
        clear hb3
        clear m0 m1 m2 m3 n0 n1 n2 n3 n4 n5 n6 n7 n8 n9 n10 r0 r1
        obtain ⟨hl2, hxy, hbw, hgz⟩ := KB.out w3 HT3.out
        have m0 := hl2.node 0 _ rfl
        have m1 := hl2.node 1 _ rfl
        have m2 := hl2.node 2 _ rfl
        have m3 := hl2.node 3 _ rfl
        have n0 := hl2.box 0 _ rfl
        have n1 := hl2.box 1 _ rfl
        have n2 := hl2.box 2 _ rfl
        have n3 := hl2.box 3 _ rfl
        have n4 := hl2.box 4 _ rfl
        have n5 := hl2.box 5 _ rfl
        have n6 := hl2.box 6 _ rfl
        have n7 := hl2.box 7 _ rfl
        have n8 := hl2.box 8 _ rfl
        have n9 := hl2.box 9 _ rfl
        have n10 := hl2.box 10 _ rfl
        have r0 := hxy 0 _ rfl
        have r1 := hxy 1 _ rfl
        simp only [Nat.zero_add] at m0 m1 m2 m3 n0 n1 n2 n3 n4 n5 n6 n7 n8 n9 n10 r0 r1
        have HBW_w3 := hid hbw
        clear hl2 hxy hbw hgz
        go_wp2_with fail
        go_ret
        exact ⟨rfl, HBW_w3.out⟩
end Go.Proofs.YtmahiejfniaahaaGreatDoor
