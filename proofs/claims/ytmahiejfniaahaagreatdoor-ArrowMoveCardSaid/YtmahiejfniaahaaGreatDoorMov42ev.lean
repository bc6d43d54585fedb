/- ref42.Move. Written by wip/genr42.py. -/
import Derived.Test.YtmahiejfniaahaaGreatDoorVrt42v
import Derived.Test.YtmahiejfniaahaaGreatDoorMovVv
import Derived.Test.YtmahiejfniaahaaGreatDoorPos7v
import Derived.Test.YtmahiejfniaahaaGreatDoorHI
import Derived.Test.YtmahiejfniaahaaGreatDoorGM
import Derived.Laws.EntriesVeiled
import Derived.Deep.RegionHeld3
import Derived.Deep.DeepCutAuto
set_option linter.unusedVariables false
set_option linter.unusedSimpArgs false
set_option maxRecDepth 100000
namespace Go.Proofs.YtmahiejfniaahaaGreatDoor
open Go.RowKit
set_option maxHeartbeats 4000000 in
theorem rmove_err (t : Tree) (b : Bx) (p : List Int) (d : Int) (A Ak As Ap : Option Addr) (cap ck cs cp : Nat) (w : World) (hv : SliceR treeE w (Lt w.heap.size) t.kids (.slice A t.kids.length cap)) (hok : NodeOk t) (hct : countS t ≤ 900000) (hb : BoxIn w b Ak As ck cs) (hcb : cntB b ≤ 1000000) (hp : IntsR w (Lt w.heap.size) p (.slice Ap p.length cp)) (hbad : ¬ (validS t = true ∧ validB b = true ∧ posIn t p = true ∧ 0 ≤ d ∧ d ≤ 5)) :
    Calls Tryz.prog 30 #[nodeV t A cap, boxV b Ak As ck cs, .slice Ap p.length cp, .int .i64 d] w (PosRes w (moveR t b p d)) := by
  have CN : Hid (∀ W, Below w.heap.size w W → Calls Tryz.prog 31 #[nodeV t A cap] W fun e w' => e = .returned (.bool (validS t)) ∧ Below W.heap.size W w') := fun W hW => valid_any t A cap W (hv.below hW hW.size) hok.2.2 (by omega)
  have CB : Hid (∀ W, Below w.heap.size w W → Calls Tryz.prog 41 #[boxV b Ak As ck cs] W fun e w' => e = .returned (.bool (validB b)) ∧ Below W.heap.size W w') := fun W hW => bvalid28_any b Ak As ck cs W hb.ok.name (hb.below hW).src (hb.below hW).kids hcb
  have CP : Hid (∀ W, Below w.heap.size w W → Calls Tryz.prog 42 #[nodeV t A cap, .slice Ap p.length cp] W fun e w' => e = .returned (.bool (validS t && posIn t p)) ∧ Below W.heap.size W w') := fun W hW => rValid_any t p A cap (.slice Ap p.length cp) W (hv.below hW hW.size) hok.2.2 hct (hp.below hW hW.size)
  have HR1 : Hid ((validS t && validB b) = false → moveR t b p d = ([], 1)) := fun h => by rw [moveR, if_pos h]
  have HR2 : Hid ((validS t && validB b) = true → (posIn t p && (decide (0 ≤ d) && decide (d ≤ 5))) = false → moveR t b p d = ([], 2)) := fun h h2 => by rw [moveR, if_neg (by simp [h]), if_pos h2]
  generalize hW0 : (w.alloc (Obj.cells #[.int .i64 t.kind, .string t.text, .int .i64 t.cols, .slice A t.kids.length cap] 24)).alloc (Obj.cells (boxC b.f (.slice Ak b.kids.length ck) (.slice As b.f.src.length cs)) 28) = W0
  have hz0 : W0.heap.size = w.heap.size + 1 + 1 := by rw [← hW0]; simp
  have hB0 : Below w.heap.size w W0 := by rw [← hW0]; exact bAl (bNew _ _) _
  have hb4 : MovBox W0 w.heap.size #[.int .i64 t.kind, .string t.text, .int .i64 t.cols, .slice A t.kids.length cap] := by
    rw [← hW0]
    exact (MovBox.new w _ _ _ rfl).below (bNew _ _) (by simp)
  have hb11 : MovBox W0 (w.heap.size + 1) (boxC b.f (.slice Ak b.kids.length ck) (.slice As b.f.src.length cs)) := by
    rw [← hW0]
    exact MovBox.new _ _ _ _ (by simp)
  have KB : Hid (∀ W, Below W0.heap.size W0 W → MovBox W w.heap.size #[.int .i64 t.kind, .string t.text, .int .i64 t.cols, .slice A t.kids.length cap] ∧ MovBox W (w.heap.size + 1) (boxC b.f (.slice Ak b.kids.length ck) (.slice As b.f.src.length cs)) ∧ Below w.heap.size w W) := fun W hW =>
    ⟨hb4.below hW (by omega), hb11.below hW (by omega), hB0.trans (hW.mono hB0.size)⟩
  generalize moveR t b p d = r at *
  clear hv hok hct hb hcb hp hz0 hB0 hb4 hb11
  cases hvt : validS t with
  | false =>
    have HR : Hid (r = ([], 1)) := HR1.out (by rw [hvt]; rfl)
    rw [hvt] at CN
    clear HR1 HR2 hvt hbad CB CP
    obtain ⟨hm, hn, hbw⟩ := KB.out W0 (Below.refl _ _)
    have m0 := hm 0 _ rfl
    have m1 := hm 1 _ rfl
    have m2 := hm 2 _ rfl
    have m3 := hm 3 _ rfl
    have n0 := hn 0 _ rfl
    have n1 := hn 1 _ rfl
    have n2 := hn 2 _ rfl
    have n3 := hn 3 _ rfl
    have n4 := hn 4 _ rfl
    have n5 := hn 5 _ rfl
    have n6 := hn 6 _ rfl
    have n7 := hn 7 _ rfl
    have n8 := hn 8 _ rfl
    have n9 := hn 9 _ rfl
    have n10 := hn 10 _ rfl
    have HW_W0 := hid hbw
    clear hm hn hbw
    go_enter Tryz.func30, Tryz.ntmps30
    go_wp2_with fail
    refine (CN.out _ HW_W0.out).mono ?_
    rintro e w1 ⟨rfl, hb1⟩
    have HT1 := hid hb1
    clear hb1 hW0
    clear m0 m1 m2 m3 n0 n1 n2 n3 n4 n5 n6 n7 n8 n9 n10
    obtain ⟨hm, hn, hbw⟩ := KB.out w1 HT1.out
    have m0 := hm 0 _ rfl
    have m1 := hm 1 _ rfl
    have m2 := hm 2 _ rfl
    have m3 := hm 3 _ rfl
    have n0 := hn 0 _ rfl
    have n1 := hn 1 _ rfl
    have n2 := hn 2 _ rfl
    have n3 := hn 3 _ rfl
    have n4 := hn 4 _ rfl
    have n5 := hn 5 _ rfl
    have n6 := hn 6 _ rfl
    have n7 := hn 7 _ rfl
    have n8 := hn 8 _ rfl
    have n9 := hn 9 _ rfl
    have n10 := hn 10 _ rfl
    have HW_w1 := hid hbw
    clear hm hn hbw
    go_wp2_with fail
    go_ret2
    exact ⟨HW_w1.out, .slice none 0 0, by rw [HR.out]; rfl, by rw [HR.out]; exact SliceR.nil_ 0 (Nat.zero_le _) none⟩
  | true =>
    cases hvb : validB b with
    | false =>
      have HR : Hid (r = ([], 1)) := HR1.out (by rw [hvb, hvt]; rfl)
      rw [hvt] at CN
      rw [hvb] at CB
      clear HR1 HR2 hvt hvb hbad CP
      obtain ⟨hm, hn, hbw⟩ := KB.out W0 (Below.refl _ _)
      have m0 := hm 0 _ rfl
      have m1 := hm 1 _ rfl
      have m2 := hm 2 _ rfl
      have m3 := hm 3 _ rfl
      have n0 := hn 0 _ rfl
      have n1 := hn 1 _ rfl
      have n2 := hn 2 _ rfl
      have n3 := hn 3 _ rfl
      have n4 := hn 4 _ rfl
      have n5 := hn 5 _ rfl
      have n6 := hn 6 _ rfl
      have n7 := hn 7 _ rfl
      have n8 := hn 8 _ rfl
      have n9 := hn 9 _ rfl
      have n10 := hn 10 _ rfl
      have HW_W0 := hid hbw
      clear hm hn hbw
      go_enter Tryz.func30, Tryz.ntmps30
      go_wp2_with fail
      refine (CN.out _ HW_W0.out).mono ?_
      rintro e w1 ⟨rfl, hb1⟩
      have HT1 := hid hb1
      clear hb1 hW0
      clear m0 m1 m2 m3 n0 n1 n2 n3 n4 n5 n6 n7 n8 n9 n10
      obtain ⟨hm, hn, hbw⟩ := KB.out w1 HT1.out
      have m0 := hm 0 _ rfl
      have m1 := hm 1 _ rfl
      have m2 := hm 2 _ rfl
      have m3 := hm 3 _ rfl
      have n0 := hn 0 _ rfl
      have n1 := hn 1 _ rfl
      have n2 := hn 2 _ rfl
      have n3 := hn 3 _ rfl
      have n4 := hn 4 _ rfl
      have n5 := hn 5 _ rfl
      have n6 := hn 6 _ rfl
      have n7 := hn 7 _ rfl
      have n8 := hn 8 _ rfl
      have n9 := hn 9 _ rfl
      have n10 := hn 10 _ rfl
      have HW_w1 := hid hbw
      clear hm hn hbw
      go_wp2_with fail
      refine (CB.out _ HW_w1.out).mono ?_
      rintro e w2 ⟨rfl, hb2⟩
      have HT2 := hid (bCl HT1.out hb2)
      clear hb2
      clear m0 m1 m2 m3 n0 n1 n2 n3 n4 n5 n6 n7 n8 n9 n10
      obtain ⟨hm, hn, hbw⟩ := KB.out w2 HT2.out
      have m0 := hm 0 _ rfl
      have m1 := hm 1 _ rfl
      have m2 := hm 2 _ rfl
      have m3 := hm 3 _ rfl
      have n0 := hn 0 _ rfl
      have n1 := hn 1 _ rfl
      have n2 := hn 2 _ rfl
      have n3 := hn 3 _ rfl
      have n4 := hn 4 _ rfl
      have n5 := hn 5 _ rfl
      have n6 := hn 6 _ rfl
      have n7 := hn 7 _ rfl
      have n8 := hn 8 _ rfl
      have n9 := hn 9 _ rfl
      have n10 := hn 10 _ rfl
      have HW_w2 := hid hbw
      clear hm hn hbw
      go_wp2_with fail
      go_ret2
      exact ⟨HW_w2.out, .slice none 0 0, by rw [HR.out]; rfl, by rw [HR.out]; exact SliceR.nil_ 0 (Nat.zero_le _) none⟩
    | true =>
      rw [hvt] at CN CP
      rw [hvb] at CB
      have HRr := hid (HR2.out (by rw [hvt, hvb]; rfl))
      cases hpi : posIn t p with
      | false =>
        have HR : Hid (r = ([], 2)) := HRr.out (by rw [hpi]; rfl)
        rw [hpi] at CP
        clear HR1 HR2 HRr hvt hvb hbad hpi
        obtain ⟨hm, hn, hbw⟩ := KB.out W0 (Below.refl _ _)
        have m0 := hm 0 _ rfl
        have m1 := hm 1 _ rfl
        have m2 := hm 2 _ rfl
        have m3 := hm 3 _ rfl
        have n0 := hn 0 _ rfl
        have n1 := hn 1 _ rfl
        have n2 := hn 2 _ rfl
        have n3 := hn 3 _ rfl
        have n4 := hn 4 _ rfl
        have n5 := hn 5 _ rfl
        have n6 := hn 6 _ rfl
        have n7 := hn 7 _ rfl
        have n8 := hn 8 _ rfl
        have n9 := hn 9 _ rfl
        have n10 := hn 10 _ rfl
        have HW_W0 := hid hbw
        clear hm hn hbw
        go_enter Tryz.func30, Tryz.ntmps30
        go_wp2_with fail
        refine (CN.out _ HW_W0.out).mono ?_
        rintro e w1 ⟨rfl, hb1⟩
        have HT1 := hid hb1
        clear hb1 hW0
        clear m0 m1 m2 m3 n0 n1 n2 n3 n4 n5 n6 n7 n8 n9 n10
        obtain ⟨hm, hn, hbw⟩ := KB.out w1 HT1.out
        have m0 := hm 0 _ rfl
        have m1 := hm 1 _ rfl
        have m2 := hm 2 _ rfl
        have m3 := hm 3 _ rfl
        have n0 := hn 0 _ rfl
        have n1 := hn 1 _ rfl
        have n2 := hn 2 _ rfl
        have n3 := hn 3 _ rfl
        have n4 := hn 4 _ rfl
        have n5 := hn 5 _ rfl
        have n6 := hn 6 _ rfl
        have n7 := hn 7 _ rfl
        have n8 := hn 8 _ rfl
        have n9 := hn 9 _ rfl
        have n10 := hn 10 _ rfl
        have HW_w1 := hid hbw
        clear hm hn hbw
        go_wp2_with fail
        refine (CB.out _ HW_w1.out).mono ?_
        rintro e w2 ⟨rfl, hb2⟩
        have HT2 := hid (bCl HT1.out hb2)
        clear hb2
        clear m0 m1 m2 m3 n0 n1 n2 n3 n4 n5 n6 n7 n8 n9 n10
        obtain ⟨hm, hn, hbw⟩ := KB.out w2 HT2.out
        have m0 := hm 0 _ rfl
        have m1 := hm 1 _ rfl
        have m2 := hm 2 _ rfl
        have m3 := hm 3 _ rfl
        have n0 := hn 0 _ rfl
        have n1 := hn 1 _ rfl
        have n2 := hn 2 _ rfl
        have n3 := hn 3 _ rfl
        have n4 := hn 4 _ rfl
        have n5 := hn 5 _ rfl
        have n6 := hn 6 _ rfl
        have n7 := hn 7 _ rfl
        have n8 := hn 8 _ rfl
        have n9 := hn 9 _ rfl
        have n10 := hn 10 _ rfl
        have HW_w2 := hid hbw
        clear hm hn hbw
        go_wp2_with fail
        refine (CP.out _ HW_w2.out).mono ?_
        rintro e w3 ⟨rfl, hb3⟩
        have HT3 := hid (bCl HT2.out hb3)
        clear hb3
        clear m0 m1 m2 m3 n0 n1 n2 n3 n4 n5 n6 n7 n8 n9 n10
        obtain ⟨hm, hn, hbw⟩ := KB.out w3 HT3.out
        have m0 := hm 0 _ rfl
        have m1 := hm 1 _ rfl
        have m2 := hm 2 _ rfl
        have m3 := hm 3 _ rfl
        have n0 := hn 0 _ rfl
        have n1 := hn 1 _ rfl
        have n2 := hn 2 _ rfl
        have n3 := hn 3 _ rfl
        have n4 := hn 4 _ rfl
        have n5 := hn 5 _ rfl
        have n6 := hn 6 _ rfl
        have n7 := hn 7 _ rfl
        have n8 := hn 8 _ rfl
        have n9 := hn 9 _ rfl
        have n10 := hn 10 _ rfl
        have HW_w3 := hid hbw
        clear hm hn hbw
        go_wp2_with fail
        go_ret2
        exact ⟨HW_w3.out, .slice none 0 0, by rw [HR.out]; rfl, by rw [HR.out]; exact SliceR.nil_ 0 (Nat.zero_le _) none⟩
      | true =>
        rw [hpi] at CP HRr
        by_cases hd0 : 0 ≤ d
        · have hd5 : ¬ d ≤ 5 := fun h => hbad ⟨hvt, hvb, hpi, hd0, h⟩
          have HR : Hid (r = ([], 2)) := HRr.out (by rw [decide_eq_false hd5]; simp)
          have i1 : decide (d < 0) = false := decide_eq_false (by omega)
          have i2 : decide (5 < d) = true := decide_eq_true (by omega)
          clear HR1 HR2 HRr hvt hvb hbad hpi hd0 hd5
          obtain ⟨hm, hn, hbw⟩ := KB.out W0 (Below.refl _ _)
          have m0 := hm 0 _ rfl
          have m1 := hm 1 _ rfl
          have m2 := hm 2 _ rfl
          have m3 := hm 3 _ rfl
          have n0 := hn 0 _ rfl
          have n1 := hn 1 _ rfl
          have n2 := hn 2 _ rfl
          have n3 := hn 3 _ rfl
          have n4 := hn 4 _ rfl
          have n5 := hn 5 _ rfl
          have n6 := hn 6 _ rfl
          have n7 := hn 7 _ rfl
          have n8 := hn 8 _ rfl
          have n9 := hn 9 _ rfl
          have n10 := hn 10 _ rfl
          have HW_W0 := hid hbw
          clear hm hn hbw
          go_enter Tryz.func30, Tryz.ntmps30
          go_wp2_with fail
          refine (CN.out _ HW_W0.out).mono ?_
          rintro e w1 ⟨rfl, hb1⟩
          have HT1 := hid hb1
          clear hb1 hW0
          clear m0 m1 m2 m3 n0 n1 n2 n3 n4 n5 n6 n7 n8 n9 n10
          obtain ⟨hm, hn, hbw⟩ := KB.out w1 HT1.out
          have m0 := hm 0 _ rfl
          have m1 := hm 1 _ rfl
          have m2 := hm 2 _ rfl
          have m3 := hm 3 _ rfl
          have n0 := hn 0 _ rfl
          have n1 := hn 1 _ rfl
          have n2 := hn 2 _ rfl
          have n3 := hn 3 _ rfl
          have n4 := hn 4 _ rfl
          have n5 := hn 5 _ rfl
          have n6 := hn 6 _ rfl
          have n7 := hn 7 _ rfl
          have n8 := hn 8 _ rfl
          have n9 := hn 9 _ rfl
          have n10 := hn 10 _ rfl
          have HW_w1 := hid hbw
          clear hm hn hbw
          go_wp2_with fail
          refine (CB.out _ HW_w1.out).mono ?_
          rintro e w2 ⟨rfl, hb2⟩
          have HT2 := hid (bCl HT1.out hb2)
          clear hb2
          clear m0 m1 m2 m3 n0 n1 n2 n3 n4 n5 n6 n7 n8 n9 n10
          obtain ⟨hm, hn, hbw⟩ := KB.out w2 HT2.out
          have m0 := hm 0 _ rfl
          have m1 := hm 1 _ rfl
          have m2 := hm 2 _ rfl
          have m3 := hm 3 _ rfl
          have n0 := hn 0 _ rfl
          have n1 := hn 1 _ rfl
          have n2 := hn 2 _ rfl
          have n3 := hn 3 _ rfl
          have n4 := hn 4 _ rfl
          have n5 := hn 5 _ rfl
          have n6 := hn 6 _ rfl
          have n7 := hn 7 _ rfl
          have n8 := hn 8 _ rfl
          have n9 := hn 9 _ rfl
          have n10 := hn 10 _ rfl
          have HW_w2 := hid hbw
          clear hm hn hbw
          go_wp2_with fail
          refine (CP.out _ HW_w2.out).mono ?_
          rintro e w3 ⟨rfl, hb3⟩
          have HT3 := hid (bCl HT2.out hb3)
          clear hb3
          clear m0 m1 m2 m3 n0 n1 n2 n3 n4 n5 n6 n7 n8 n9 n10
          obtain ⟨hm, hn, hbw⟩ := KB.out w3 HT3.out
          have m0 := hm 0 _ rfl
          have m1 := hm 1 _ rfl
          have m2 := hm 2 _ rfl
          have m3 := hm 3 _ rfl
          have n0 := hn 0 _ rfl
          have n1 := hn 1 _ rfl
          have n2 := hn 2 _ rfl
          have n3 := hn 3 _ rfl
          have n4 := hn 4 _ rfl
          have n5 := hn 5 _ rfl
          have n6 := hn 6 _ rfl
          have n7 := hn 7 _ rfl
          have n8 := hn 8 _ rfl
          have n9 := hn 9 _ rfl
          have n10 := hn 10 _ rfl
          have HW_w3 := hid hbw
          clear hm hn hbw
          go_wp2_with fail
          go_ret2
          exact ⟨HW_w3.out, .slice none 0 0, by rw [HR.out]; rfl, by rw [HR.out]; exact SliceR.nil_ 0 (Nat.zero_le _) none⟩
        · have HR : Hid (r = ([], 2)) := HRr.out (by rw [decide_eq_false hd0]; simp)
          have i1 : decide (d < 0) = true := decide_eq_true (by omega)
          clear HR1 HR2 HRr hvt hvb hbad hpi hd0
          obtain ⟨hm, hn, hbw⟩ := KB.out W0 (Below.refl _ _)
          have m0 := hm 0 _ rfl
          have m1 := hm 1 _ rfl
          have m2 := hm 2 _ rfl
          have m3 := hm 3 _ rfl
          have n0 := hn 0 _ rfl
          have n1 := hn 1 _ rfl
          have n2 := hn 2 _ rfl
          have n3 := hn 3 _ rfl
          have n4 := hn 4 _ rfl
          have n5 := hn 5 _ rfl
          have n6 := hn 6 _ rfl
          have n7 := hn 7 _ rfl
          have n8 := hn 8 _ rfl
          have n9 := hn 9 _ rfl
          have n10 := hn 10 _ rfl
          have HW_W0 := hid hbw
          clear hm hn hbw
          go_enter Tryz.func30, Tryz.ntmps30
          go_wp2_with fail
          refine (CN.out _ HW_W0.out).mono ?_
          rintro e w1 ⟨rfl, hb1⟩
          have HT1 := hid hb1
          clear hb1 hW0
          clear m0 m1 m2 m3 n0 n1 n2 n3 n4 n5 n6 n7 n8 n9 n10
          obtain ⟨hm, hn, hbw⟩ := KB.out w1 HT1.out
          have m0 := hm 0 _ rfl
          have m1 := hm 1 _ rfl
          have m2 := hm 2 _ rfl
          have m3 := hm 3 _ rfl
          have n0 := hn 0 _ rfl
          have n1 := hn 1 _ rfl
          have n2 := hn 2 _ rfl
          have n3 := hn 3 _ rfl
          have n4 := hn 4 _ rfl
          have n5 := hn 5 _ rfl
          have n6 := hn 6 _ rfl
          have n7 := hn 7 _ rfl
          have n8 := hn 8 _ rfl
          have n9 := hn 9 _ rfl
          have n10 := hn 10 _ rfl
          have HW_w1 := hid hbw
          clear hm hn hbw
          go_wp2_with fail
          refine (CB.out _ HW_w1.out).mono ?_
          rintro e w2 ⟨rfl, hb2⟩
          have HT2 := hid (bCl HT1.out hb2)
          clear hb2
          clear m0 m1 m2 m3 n0 n1 n2 n3 n4 n5 n6 n7 n8 n9 n10
          obtain ⟨hm, hn, hbw⟩ := KB.out w2 HT2.out
          have m0 := hm 0 _ rfl
          have m1 := hm 1 _ rfl
          have m2 := hm 2 _ rfl
          have m3 := hm 3 _ rfl
          have n0 := hn 0 _ rfl
          have n1 := hn 1 _ rfl
          have n2 := hn 2 _ rfl
          have n3 := hn 3 _ rfl
          have n4 := hn 4 _ rfl
          have n5 := hn 5 _ rfl
          have n6 := hn 6 _ rfl
          have n7 := hn 7 _ rfl
          have n8 := hn 8 _ rfl
          have n9 := hn 9 _ rfl
          have n10 := hn 10 _ rfl
          have HW_w2 := hid hbw
          clear hm hn hbw
          go_wp2_with fail
          refine (CP.out _ HW_w2.out).mono ?_
          rintro e w3 ⟨rfl, hb3⟩
          have HT3 := hid (bCl HT2.out hb3)
          clear hb3
          clear m0 m1 m2 m3 n0 n1 n2 n3 n4 n5 n6 n7 n8 n9 n10
          obtain ⟨hm, hn, hbw⟩ := KB.out w3 HT3.out
          have m0 := hm 0 _ rfl
          have m1 := hm 1 _ rfl
          have m2 := hm 2 _ rfl
          have m3 := hm 3 _ rfl
          have n0 := hn 0 _ rfl
          have n1 := hn 1 _ rfl
          have n2 := hn 2 _ rfl
          have n3 := hn 3 _ rfl
          have n4 := hn 4 _ rfl
          have n5 := hn 5 _ rfl
          have n6 := hn 6 _ rfl
          have n7 := hn 7 _ rfl
          have n8 := hn 8 _ rfl
          have n9 := hn 9 _ rfl
          have n10 := hn 10 _ rfl
          have HW_w3 := hid hbw
          clear hm hn hbw
          go_wp2_with fail
          go_ret2
          exact ⟨HW_w3.out, .slice none 0 0, by rw [HR.out]; rfl, by rw [HR.out]; exact SliceR.nil_ 0 (Nat.zero_le _) none⟩
end Go.Proofs.YtmahiejfniaahaaGreatDoor
