/- CaretMoved. Written by wip/genmvd.py. -/
import Derived.Test.YtmahiejfniaahaaDoorMovPv
import Derived.Test.YtmahiejfniaahaaDoorHK
import Derived.Test.YtmahiejfniaahaaDoorR28cv
import Derived.Laws.EntriesVeiled
set_option linter.unusedVariables false
set_option linter.unusedSimpArgs false
set_option maxRecDepth 100000
namespace Go.Proofs.YtmahiejfniaahaaDoor
open Go.RowKit

theorem movB_in {W : World} {S : Nat → Prop} {b : Bx} {x y : Int} {Ak As : Option Addr} {ck cs : Nat} (hok : b.f.Ok) (hx : In64 x) (hy : In64 y) (hs : IntsR W S b.f.src (.slice As b.f.src.length cs)) (hk : BoxesS W S b.kids (.slice Ak b.kids.length ck)) :
    ListR boxE W S [movB b x y] [.int .i64 b.f.kind, .string b.f.name, .int .i64 b.f.size, .int .i64 b.f.w, .int .i64 b.f.h, .int .i64 b.f.d, .int .i64 x, .int .i64 y, .slice Ak b.kids.length ck, .int .i64 b.f.of_, .slice As b.f.src.length cs] :=
  ListR.single (E := boxE) (boxR_mk.2 ⟨.slice Ak b.kids.length ck, .slice As b.f.src.length cs, rfl, ⟨hok.kind, hok.name, hok.size, hok.w, hok.h, hok.d, hx, hy, hok.of_⟩, hs, hk⟩)
theorem lstF_ok : lstF.Ok := ⟨by simp [lstF, In64], Nat.zero_le _, by simp [lstF, In64], by simp [lstF, In64], by simp [lstF, In64], by simp [lstF, In64], by simp [lstF, In64], by simp [lstF, In64], by simp [lstF, In64]⟩
theorem few_in64 {x : Int} (h : -32768 ≤ x ∧ x ≤ 32767) : In64 x := by unfold In64; omega
theorem few_len {x : Int} (h : -32768 ≤ x ∧ x ≤ 32767) : lenOk x = true := by simp only [lenOk, decide_eq_true_eq]; omega

set_option maxHeartbeats 8000000 in
theorem CaretMoved_walk (t : Tree) (b : Bx) (x y : Int) (A Ak As : Option Addr) (cap ck cs : Nat) (w : World) (hv : SliceR treeE w (Lt w.heap.size) t.kids (.slice A t.kids.length cap)) (hok : NodeOk t) (hb : BoxIn w b Ak As ck cs) (hx : -32768 ≤ x ∧ x ≤ 32767) (hy : -32768 ≤ y ∧ y ≤ 32767) (htab : TabOk w) :
    Calls Tryd.prog 3 #[nodeV t A cap, boxV b Ak As ck cs, .agg #[.int .i16 x, .int .i16 y]] w fun e w' => e = .returned (.bool true) ∧ Below w.heap.size w w' := by
  have HTAB := hid htab
  have CAW : Hid (∀ W, Below w.heap.size w W → Calls Tryd.prog 5 #[] W fun e w' => e = .returned (.bool true) ∧ Below W.heap.size W w') := fun W hW => awake40_any W (HTAB.out.below hW)
  have CFW : Hid (∀ W, Below w.heap.size w W → Calls Tryd.prog 6 #[nodeV t A cap, boxV b Ak As ck cs] W fun e w' => e = .returned (.bool (few40S t b)) ∧ Below W.heap.size W w') := fun W hW => few40_any t b A Ak As cap ck cs W (hv.below hW hW.size) (hb.below hW)
  generalize hW0 : ((w.alloc (Obj.cells #[.int .i64 t.kind, .string t.text, .int .i64 t.cols, .slice A t.kids.length cap] 24)).alloc (Obj.cells (boxC b.f (.slice Ak b.kids.length ck) (.slice As b.f.src.length cs)) 28)).alloc (.cells #[.int .i16 x, .int .i16 y] 30) = W0
  have KB : Hid (∀ W, Below W0.heap.size W0 W → Laid2 W w.heap.size w.heap.size t b A Ak As cap ck cs ∧ BoxL W (w.heap.size + 2) 0 [.int .i16 x, .int .i16 y] ∧ Below w.heap.size w W ∧ w.heap.size + 2 < W.heap.size) := fun W hW => by
    have hz0 : W0.heap.size = w.heap.size + 3 := by rw [← hW0]; simp
    have h1 := Laid2.new w t b A Ak As cap ck cs 24 28 hv hb
    have h2 := h1.below (bNew _ (.cells #[.int .i16 x, .int .i16 y] 30)) (by simp) (by simp <;> omega)
    have h3 : Below w.heap.size w W0 := by rw [← hW0]; exact bAl (bAl (bNew _ _) _) _
    have h4 : BoxL W0 (w.heap.size + 2) 0 [.int .i16 x, .int .i16 y] := by rw [← hW0]; exact BoxL.new _ _ _ _ (by simp) _ rfl
    rw [hW0] at h2
    exact ⟨h2.below hW (by omega) (by omega), h4.below hW (by omega), h3.trans (hW.mono h3.size), by have := hW.size; omega⟩
  have CV0 : Hid (few40S t b = true → ∀ W, Below w.heap.size w W → Calls Tryd.prog 7 #[boxV b Ak As ck cs] W fun e w' => e = .returned (.bool (validB b)) ∧ Below W.heap.size W w') := fun h W hW => by
    obtain ⟨h1, h2⟩ := few40_cnt h
    exact bvalid28_any b Ak As ck cs W hb.ok.name (hb.below hW).src (hb.below hW).kids (by omega)
  have CN0 : Hid (few40S t b = true → ∀ W, Below w.heap.size w W → Calls Tryd.prog 8 #[boxV b Ak As ck cs] W fun e w' => e = .returned (.int .i64 (nestB b)) ∧ Below W.heap.size W w') := fun h W hW => by
    obtain ⟨h1, h2⟩ := few40_cnt h
    exact nested28_any b Ak As ck cs W (hb.below hW).kids (by omega)
  have CA0 : Hid (∀ W, Below w.heap.size w W → Calls Tryd.prog 11 #[nodeV t A cap, boxV b Ak As ck cs] W (CarsRes W (carsR t b))) := fun W hW => call_any t b A Ak As cap ck cs W (hv.below hW hW.size) hok.2.2 (hb.below hW) (HTAB.out.below hW)
  have CL0 : Hid (∀ W Al cl, Below w.heap.size w W → BoxIn W (lstB b x y) Al none cl 0 → Calls Tryd.prog 11 #[nodeV t A cap, .agg #[.int .i64 3, .string ⟨#[]⟩, .int .i64 0, .int .i64 0, .int .i64 0, .int .i64 0, .int .i64 0, .int .i64 0, .slice Al 1 cl, .int .i64 0, .slice none 0 0]] W (CarsRes W (carsR t (lstB b x y)))) := fun W Al cl hW hi => call_any t (lstB b x y) A Al none cap cl 0 W (hv.below hW hW.size) hok.2.2 hi (HTAB.out.below hW)
  have HBI : Hid (∀ W, Below w.heap.size w W → BoxIn W b Ak As ck cs) := fun W hW => hb.below hW
  have HVL : Hid (few40S t b = true → validB b = true → nestB b ≤ 90 → carsR t (lstB b x y) = ((carsR t b).1.map (movC x y), (carsR t b).2) ∧ ∀ d ∈ (carsR t b).1, Sm d.x ∧ Sm d.top ∧ Sm d.bottom) := fun h h2 h3 => by
    obtain ⟨_, hc⟩ := few40_cnt h
    exact ⟨carsR_lst t h2 (lstB_valid h2 (by omega) (by omega) (few_len hx) (few_len hy)), carsR_sm h2⟩
  have HX64 := hid (few_in64 hx)
  have HY64 := hid (few_in64 hy)
  have vx : IntKind.i64.wrap x = x := IntWalk.i64_in _ (by omega)
  have vy : IntKind.i64.wrap y = y := IntWalk.i64_in _ (by omega)
  clear hv hok hb htab
  cases hf40 : few40S t b with
  | false =>
    rw [hf40] at CFW
    clear hf40 CV0 CN0 CA0 CL0 HVL
    obtain ⟨hl2, hxy, hbw, hgz⟩ := KB.out W0 (Below.refl _ _)
    have m0 := hl2.node 0 _ rfl
    have m1 := hl2.node 1 _ rfl
    have m2 := hl2.node 2 _ rfl
    have m3 := hl2.node 3 _ rfl
    have n0 := hl2.box 0 _ rfl
    have n1 := hl2.box 1 _ rfl
    have n2 := hl2.box 2 _ rfl
    have n3 := hl2.box 3 _ rfl
    have n4 := hl2.box 4 _ rfl
    have n5 := hl2.box 5 _ rfl
    have n6 := hl2.box 6 _ rfl
    have n7 := hl2.box 7 _ rfl
    have n8 := hl2.box 8 _ rfl
    have n9 := hl2.box 9 _ rfl
    have n10 := hl2.box 10 _ rfl
    have r0 := hxy 0 _ rfl
    have r1 := hxy 1 _ rfl
    simp only [Nat.zero_add] at m0 m1 m2 m3 n0 n1 n2 n3 n4 n5 n6 n7 n8 n9 n10 r0 r1
    have HBW_W0 := hid hbw
    clear hl2 hxy hbw hgz
    go_enter Tryd.func3, Tryd.ntmps3
    go_wp2_with fail
    clear hW0
    refine (CAW.out _ HBW_W0.out).mono ?_
    rintro e0 w1 ⟨rfl, hb1⟩
    have HT1 := hid hb1
    clear hb1
    clear m0 m1 m2 m3 n0 n1 n2 n3 n4 n5 n6 n7 n8 n9 n10 r0 r1
    obtain ⟨hl2, hxy, hbw, hgz⟩ := KB.out w1 HT1.out
    have m0 := hl2.node 0 _ rfl
    have m1 := hl2.node 1 _ rfl
    have m2 := hl2.node 2 _ rfl
    have m3 := hl2.node 3 _ rfl
    have n0 := hl2.box 0 _ rfl
    have n1 := hl2.box 1 _ rfl
    have n2 := hl2.box 2 _ rfl
    have n3 := hl2.box 3 _ rfl
    have n4 := hl2.box 4 _ rfl
    have n5 := hl2.box 5 _ rfl
    have n6 := hl2.box 6 _ rfl
    have n7 := hl2.box 7 _ rfl
    have n8 := hl2.box 8 _ rfl
    have n9 := hl2.box 9 _ rfl
    have n10 := hl2.box 10 _ rfl
    have r0 := hxy 0 _ rfl
    have r1 := hxy 1 _ rfl
    simp only [Nat.zero_add] at m0 m1 m2 m3 n0 n1 n2 n3 n4 n5 n6 n7 n8 n9 n10 r0 r1
    have HBW_w1 := hid hbw
    clear hl2 hxy hbw hgz
    go_wp2_with fail
    refine (CFW.out _ HBW_w1.out).mono ?_
    rintro e0 w2 ⟨rfl, hb2⟩
    have HT2 := hid (bCl HT1.out hb2)
    clear hb2
    clear m0 m1 m2 m3 n0 n1 n2 n3 n4 n5 n6 n7 n8 n9 n10 r0 r1
    obtain ⟨hl2, hxy, hbw, hgz⟩ := KB.out w2 HT2.out
    have m0 := hl2.node 0 _ rfl
    have m1 := hl2.node 1 _ rfl
    have m2 := hl2.node 2 _ rfl
    have m3 := hl2.node 3 _ rfl
    have n0 := hl2.box 0 _ rfl
    have n1 := hl2.box 1 _ rfl
    have n2 := hl2.box 2 _ rfl
    have n3 := hl2.box 3 _ rfl
    have n4 := hl2.box 4 _ rfl
    have n5 := hl2.box 5 _ rfl
    have n6 := hl2.box 6 _ rfl
    have n7 := hl2.box 7 _ rfl
    have n8 := hl2.box 8 _ rfl
    have n9 := hl2.box 9 _ rfl
    have n10 := hl2.box 10 _ rfl
    have r0 := hxy 0 _ rfl
    have r1 := hxy 1 _ rfl
    simp only [Nat.zero_add] at m0 m1 m2 m3 n0 n1 n2 n3 n4 n5 n6 n7 n8 n9 n10 r0 r1
    have HBW_w2 := hid hbw
    clear hl2 hxy hbw hgz
    go_wp2_with fail
    go_ret
    exact ⟨rfl, HBW_w2.out⟩
  | true =>
    rw [hf40] at CFW
    have CVW := hid (CV0.out hf40)
    have CNW := hid (CN0.out hf40)
    have HVV := hid (HVL.out hf40)
    clear hf40 CV0 CN0 HVL
    cases hvb : validB b with
    | false =>
      rw [hvb] at CVW
      clear hvb HVV CNW CA0 CL0
      obtain ⟨hl2, hxy, hbw, hgz⟩ := KB.out W0 (Below.refl _ _)
      have m0 := hl2.node 0 _ rfl
      have m1 := hl2.node 1 _ rfl
      have m2 := hl2.node 2 _ rfl
      have m3 := hl2.node 3 _ rfl
      have n0 := hl2.box 0 _ rfl
      have n1 := hl2.box 1 _ rfl
      have n2 := hl2.box 2 _ rfl
      have n3 := hl2.box 3 _ rfl
      have n4 := hl2.box 4 _ rfl
      have n5 := hl2.box 5 _ rfl
      have n6 := hl2.box 6 _ rfl
      have n7 := hl2.box 7 _ rfl
      have n8 := hl2.box 8 _ rfl
      have n9 := hl2.box 9 _ rfl
      have n10 := hl2.box 10 _ rfl
      have r0 := hxy 0 _ rfl
      have r1 := hxy 1 _ rfl
      simp only [Nat.zero_add] at m0 m1 m2 m3 n0 n1 n2 n3 n4 n5 n6 n7 n8 n9 n10 r0 r1
      have HBW_W0 := hid hbw
      clear hl2 hxy hbw hgz
      go_enter Tryd.func3, Tryd.ntmps3
      go_wp2_with fail
      clear hW0
      refine (CAW.out _ HBW_W0.out).mono ?_
      rintro e0 w1 ⟨rfl, hb1⟩
      have HT1 := hid hb1
      clear hb1
      clear m0 m1 m2 m3 n0 n1 n2 n3 n4 n5 n6 n7 n8 n9 n10 r0 r1
      obtain ⟨hl2, hxy, hbw, hgz⟩ := KB.out w1 HT1.out
      have m0 := hl2.node 0 _ rfl
      have m1 := hl2.node 1 _ rfl
      have m2 := hl2.node 2 _ rfl
      have m3 := hl2.node 3 _ rfl
      have n0 := hl2.box 0 _ rfl
      have n1 := hl2.box 1 _ rfl
      have n2 := hl2.box 2 _ rfl
      have n3 := hl2.box 3 _ rfl
      have n4 := hl2.box 4 _ rfl
      have n5 := hl2.box 5 _ rfl
      have n6 := hl2.box 6 _ rfl
      have n7 := hl2.box 7 _ rfl
      have n8 := hl2.box 8 _ rfl
      have n9 := hl2.box 9 _ rfl
      have n10 := hl2.box 10 _ rfl
      have r0 := hxy 0 _ rfl
      have r1 := hxy 1 _ rfl
      simp only [Nat.zero_add] at m0 m1 m2 m3 n0 n1 n2 n3 n4 n5 n6 n7 n8 n9 n10 r0 r1
      have HBW_w1 := hid hbw
      clear hl2 hxy hbw hgz
      go_wp2_with fail
      refine (CFW.out _ HBW_w1.out).mono ?_
      rintro e0 w2 ⟨rfl, hb2⟩
      have HT2 := hid (bCl HT1.out hb2)
      clear hb2
      clear m0 m1 m2 m3 n0 n1 n2 n3 n4 n5 n6 n7 n8 n9 n10 r0 r1
      obtain ⟨hl2, hxy, hbw, hgz⟩ := KB.out w2 HT2.out
      have m0 := hl2.node 0 _ rfl
      have m1 := hl2.node 1 _ rfl
      have m2 := hl2.node 2 _ rfl
      have m3 := hl2.node 3 _ rfl
      have n0 := hl2.box 0 _ rfl
      have n1 := hl2.box 1 _ rfl
      have n2 := hl2.box 2 _ rfl
      have n3 := hl2.box 3 _ rfl
      have n4 := hl2.box 4 _ rfl
      have n5 := hl2.box 5 _ rfl
      have n6 := hl2.box 6 _ rfl
      have n7 := hl2.box 7 _ rfl
      have n8 := hl2.box 8 _ rfl
      have n9 := hl2.box 9 _ rfl
      have n10 := hl2.box 10 _ rfl
      have r0 := hxy 0 _ rfl
      have r1 := hxy 1 _ rfl
      simp only [Nat.zero_add] at m0 m1 m2 m3 n0 n1 n2 n3 n4 n5 n6 n7 n8 n9 n10 r0 r1
      have HBW_w2 := hid hbw
      clear hl2 hxy hbw hgz
      go_wp2_with fail
      refine (CVW.out _ HBW_w2.out).mono ?_
      rintro e0 w3 ⟨rfl, hb3⟩
      have HT3 := hid (bCl HT2.out hb3)
      clear hb3
      clear m0 m1 m2 m3 n0 n1 n2 n3 n4 n5 n6 n7 n8 n9 n10 r0 r1
      obtain ⟨hl2, hxy, hbw, hgz⟩ := KB.out w3 HT3.out
      have m0 := hl2.node 0 _ rfl
      have m1 := hl2.node 1 _ rfl
      have m2 := hl2.node 2 _ rfl
      have m3 := hl2.node 3 _ rfl
      have n0 := hl2.box 0 _ rfl
      have n1 := hl2.box 1 _ rfl
      have n2 := hl2.box 2 _ rfl
      have n3 := hl2.box 3 _ rfl
      have n4 := hl2.box 4 _ rfl
      have n5 := hl2.box 5 _ rfl
      have n6 := hl2.box 6 _ rfl
      have n7 := hl2.box 7 _ rfl
      have n8 := hl2.box 8 _ rfl
      have n9 := hl2.box 9 _ rfl
      have n10 := hl2.box 10 _ rfl
      have r0 := hxy 0 _ rfl
      have r1 := hxy 1 _ rfl
      simp only [Nat.zero_add] at m0 m1 m2 m3 n0 n1 n2 n3 n4 n5 n6 n7 n8 n9 n10 r0 r1
      have HBW_w3 := hid hbw
      clear hl2 hxy hbw hgz
      go_wp2_with fail
      go_ret
      exact ⟨rfl, HBW_w3.out⟩
    | true =>
      rw [hvb] at CVW
      by_cases hn : nestB b ≤ 90
      case neg =>
        have i1 : decide ((90 : Int) < (nestB b : Int)) = true := by rw [decide_eq_true_eq]; omega
        have i2 : decide (90 < nestB b) = true := by rw [decide_eq_true_eq]; omega
        clear hvb HVV CA0 CL0 hn
        obtain ⟨hl2, hxy, hbw, hgz⟩ := KB.out W0 (Below.refl _ _)
        have m0 := hl2.node 0 _ rfl
        have m1 := hl2.node 1 _ rfl
        have m2 := hl2.node 2 _ rfl
        have m3 := hl2.node 3 _ rfl
        have n0 := hl2.box 0 _ rfl
        have n1 := hl2.box 1 _ rfl
        have n2 := hl2.box 2 _ rfl
        have n3 := hl2.box 3 _ rfl
        have n4 := hl2.box 4 _ rfl
        have n5 := hl2.box 5 _ rfl
        have n6 := hl2.box 6 _ rfl
        have n7 := hl2.box 7 _ rfl
        have n8 := hl2.box 8 _ rfl
        have n9 := hl2.box 9 _ rfl
        have n10 := hl2.box 10 _ rfl
        have r0 := hxy 0 _ rfl
        have r1 := hxy 1 _ rfl
        simp only [Nat.zero_add] at m0 m1 m2 m3 n0 n1 n2 n3 n4 n5 n6 n7 n8 n9 n10 r0 r1
        have HBW_W0 := hid hbw
        clear hl2 hxy hbw hgz
        go_enter Tryd.func3, Tryd.ntmps3
        go_wp2_with fail
        clear hW0
        refine (CAW.out _ HBW_W0.out).mono ?_
        rintro e0 w1 ⟨rfl, hb1⟩
        have HT1 := hid hb1
        clear hb1
        clear m0 m1 m2 m3 n0 n1 n2 n3 n4 n5 n6 n7 n8 n9 n10 r0 r1
        obtain ⟨hl2, hxy, hbw, hgz⟩ := KB.out w1 HT1.out
        have m0 := hl2.node 0 _ rfl
        have m1 := hl2.node 1 _ rfl
        have m2 := hl2.node 2 _ rfl
        have m3 := hl2.node 3 _ rfl
        have n0 := hl2.box 0 _ rfl
        have n1 := hl2.box 1 _ rfl
        have n2 := hl2.box 2 _ rfl
        have n3 := hl2.box 3 _ rfl
        have n4 := hl2.box 4 _ rfl
        have n5 := hl2.box 5 _ rfl
        have n6 := hl2.box 6 _ rfl
        have n7 := hl2.box 7 _ rfl
        have n8 := hl2.box 8 _ rfl
        have n9 := hl2.box 9 _ rfl
        have n10 := hl2.box 10 _ rfl
        have r0 := hxy 0 _ rfl
        have r1 := hxy 1 _ rfl
        simp only [Nat.zero_add] at m0 m1 m2 m3 n0 n1 n2 n3 n4 n5 n6 n7 n8 n9 n10 r0 r1
        have HBW_w1 := hid hbw
        clear hl2 hxy hbw hgz
        go_wp2_with fail
        refine (CFW.out _ HBW_w1.out).mono ?_
        rintro e0 w2 ⟨rfl, hb2⟩
        have HT2 := hid (bCl HT1.out hb2)
        clear hb2
        clear m0 m1 m2 m3 n0 n1 n2 n3 n4 n5 n6 n7 n8 n9 n10 r0 r1
        obtain ⟨hl2, hxy, hbw, hgz⟩ := KB.out w2 HT2.out
        have m0 := hl2.node 0 _ rfl
        have m1 := hl2.node 1 _ rfl
        have m2 := hl2.node 2 _ rfl
        have m3 := hl2.node 3 _ rfl
        have n0 := hl2.box 0 _ rfl
        have n1 := hl2.box 1 _ rfl
        have n2 := hl2.box 2 _ rfl
        have n3 := hl2.box 3 _ rfl
        have n4 := hl2.box 4 _ rfl
        have n5 := hl2.box 5 _ rfl
        have n6 := hl2.box 6 _ rfl
        have n7 := hl2.box 7 _ rfl
        have n8 := hl2.box 8 _ rfl
        have n9 := hl2.box 9 _ rfl
        have n10 := hl2.box 10 _ rfl
        have r0 := hxy 0 _ rfl
        have r1 := hxy 1 _ rfl
        simp only [Nat.zero_add] at m0 m1 m2 m3 n0 n1 n2 n3 n4 n5 n6 n7 n8 n9 n10 r0 r1
        have HBW_w2 := hid hbw
        clear hl2 hxy hbw hgz
        go_wp2_with fail
        refine (CVW.out _ HBW_w2.out).mono ?_
        rintro e0 w3 ⟨rfl, hb3⟩
        have HT3 := hid (bCl HT2.out hb3)
        clear hb3
        clear m0 m1 m2 m3 n0 n1 n2 n3 n4 n5 n6 n7 n8 n9 n10 r0 r1
        obtain ⟨hl2, hxy, hbw, hgz⟩ := KB.out w3 HT3.out
        have m0 := hl2.node 0 _ rfl
        have m1 := hl2.node 1 _ rfl
        have m2 := hl2.node 2 _ rfl
        have m3 := hl2.node 3 _ rfl
        have n0 := hl2.box 0 _ rfl
        have n1 := hl2.box 1 _ rfl
        have n2 := hl2.box 2 _ rfl
        have n3 := hl2.box 3 _ rfl
        have n4 := hl2.box 4 _ rfl
        have n5 := hl2.box 5 _ rfl
        have n6 := hl2.box 6 _ rfl
        have n7 := hl2.box 7 _ rfl
        have n8 := hl2.box 8 _ rfl
        have n9 := hl2.box 9 _ rfl
        have n10 := hl2.box 10 _ rfl
        have r0 := hxy 0 _ rfl
        have r1 := hxy 1 _ rfl
        simp only [Nat.zero_add] at m0 m1 m2 m3 n0 n1 n2 n3 n4 n5 n6 n7 n8 n9 n10 r0 r1
        have HBW_w3 := hid hbw
        clear hl2 hxy hbw hgz
        go_wp2_with fail
        refine (CNW.out _ HBW_w3.out).mono ?_
        rintro e0 w4 ⟨rfl, hb4⟩
        have HT4 := hid (bCl HT3.out hb4)
        clear hb4
        clear m0 m1 m2 m3 n0 n1 n2 n3 n4 n5 n6 n7 n8 n9 n10 r0 r1
        obtain ⟨hl2, hxy, hbw, hgz⟩ := KB.out w4 HT4.out
        have m0 := hl2.node 0 _ rfl
        have m1 := hl2.node 1 _ rfl
        have m2 := hl2.node 2 _ rfl
        have m3 := hl2.node 3 _ rfl
        have n0 := hl2.box 0 _ rfl
        have n1 := hl2.box 1 _ rfl
        have n2 := hl2.box 2 _ rfl
        have n3 := hl2.box 3 _ rfl
        have n4 := hl2.box 4 _ rfl
        have n5 := hl2.box 5 _ rfl
        have n6 := hl2.box 6 _ rfl
        have n7 := hl2.box 7 _ rfl
        have n8 := hl2.box 8 _ rfl
        have n9 := hl2.box 9 _ rfl
        have n10 := hl2.box 10 _ rfl
        have r0 := hxy 0 _ rfl
        have r1 := hxy 1 _ rfl
        simp only [Nat.zero_add] at m0 m1 m2 m3 n0 n1 n2 n3 n4 n5 n6 n7 n8 n9 n10 r0 r1
        have HBW_w4 := hid hbw
        clear hl2 hxy hbw hgz
        go_wp2_with fail
        go_ret
        exact ⟨rfl, HBW_w4.out⟩
      case pos =>
        have i1 : decide ((90 : Int) < (nestB b : Int)) = false := by rw [decide_eq_false_iff_not]; omega
        have i2 : decide (90 < nestB b) = false := by rw [decide_eq_false_iff_not]; omega
        obtain ⟨hcl, hsm⟩ := HVV.out hvb hn
        rw [hcl] at CL0
        have HSM := hid hsm
        clear hvb HVV hn hcl hsm
        obtain ⟨hl2, hxy, hbw, hgz⟩ := KB.out W0 (Below.refl _ _)
        have m0 := hl2.node 0 _ rfl
        have m1 := hl2.node 1 _ rfl
        have m2 := hl2.node 2 _ rfl
        have m3 := hl2.node 3 _ rfl
        have n0 := hl2.box 0 _ rfl
        have n1 := hl2.box 1 _ rfl
        have n2 := hl2.box 2 _ rfl
        have n3 := hl2.box 3 _ rfl
        have n4 := hl2.box 4 _ rfl
        have n5 := hl2.box 5 _ rfl
        have n6 := hl2.box 6 _ rfl
        have n7 := hl2.box 7 _ rfl
        have n8 := hl2.box 8 _ rfl
        have n9 := hl2.box 9 _ rfl
        have n10 := hl2.box 10 _ rfl
        have r0 := hxy 0 _ rfl
        have r1 := hxy 1 _ rfl
        simp only [Nat.zero_add] at m0 m1 m2 m3 n0 n1 n2 n3 n4 n5 n6 n7 n8 n9 n10 r0 r1
        have HBW_W0 := hid hbw
        clear hl2 hxy hbw hgz
        go_enter Tryd.func3, Tryd.ntmps3
        go_wp2_with fail
        clear hW0
        refine (CAW.out _ HBW_W0.out).mono ?_
        rintro e0 w1 ⟨rfl, hb1⟩
        have HT1 := hid hb1
        clear hb1
        clear m0 m1 m2 m3 n0 n1 n2 n3 n4 n5 n6 n7 n8 n9 n10 r0 r1
        obtain ⟨hl2, hxy, hbw, hgz⟩ := KB.out w1 HT1.out
        have m0 := hl2.node 0 _ rfl
        have m1 := hl2.node 1 _ rfl
        have m2 := hl2.node 2 _ rfl
        have m3 := hl2.node 3 _ rfl
        have n0 := hl2.box 0 _ rfl
        have n1 := hl2.box 1 _ rfl
        have n2 := hl2.box 2 _ rfl
        have n3 := hl2.box 3 _ rfl
        have n4 := hl2.box 4 _ rfl
        have n5 := hl2.box 5 _ rfl
        have n6 := hl2.box 6 _ rfl
        have n7 := hl2.box 7 _ rfl
        have n8 := hl2.box 8 _ rfl
        have n9 := hl2.box 9 _ rfl
        have n10 := hl2.box 10 _ rfl
        have r0 := hxy 0 _ rfl
        have r1 := hxy 1 _ rfl
        simp only [Nat.zero_add] at m0 m1 m2 m3 n0 n1 n2 n3 n4 n5 n6 n7 n8 n9 n10 r0 r1
        have HBW_w1 := hid hbw
        clear hl2 hxy hbw hgz
        go_wp2_with fail
        refine (CFW.out _ HBW_w1.out).mono ?_
        rintro e0 w2 ⟨rfl, hb2⟩
        have HT2 := hid (bCl HT1.out hb2)
        clear hb2
        clear m0 m1 m2 m3 n0 n1 n2 n3 n4 n5 n6 n7 n8 n9 n10 r0 r1
        obtain ⟨hl2, hxy, hbw, hgz⟩ := KB.out w2 HT2.out
        have m0 := hl2.node 0 _ rfl
        have m1 := hl2.node 1 _ rfl
        have m2 := hl2.node 2 _ rfl
        have m3 := hl2.node 3 _ rfl
        have n0 := hl2.box 0 _ rfl
        have n1 := hl2.box 1 _ rfl
        have n2 := hl2.box 2 _ rfl
        have n3 := hl2.box 3 _ rfl
        have n4 := hl2.box 4 _ rfl
        have n5 := hl2.box 5 _ rfl
        have n6 := hl2.box 6 _ rfl
        have n7 := hl2.box 7 _ rfl
        have n8 := hl2.box 8 _ rfl
        have n9 := hl2.box 9 _ rfl
        have n10 := hl2.box 10 _ rfl
        have r0 := hxy 0 _ rfl
        have r1 := hxy 1 _ rfl
        simp only [Nat.zero_add] at m0 m1 m2 m3 n0 n1 n2 n3 n4 n5 n6 n7 n8 n9 n10 r0 r1
        have HBW_w2 := hid hbw
        clear hl2 hxy hbw hgz
        go_wp2_with fail
        refine (CVW.out _ HBW_w2.out).mono ?_
        rintro e0 w3 ⟨rfl, hb3⟩
        have HT3 := hid (bCl HT2.out hb3)
        clear hb3
        clear m0 m1 m2 m3 n0 n1 n2 n3 n4 n5 n6 n7 n8 n9 n10 r0 r1
        obtain ⟨hl2, hxy, hbw, hgz⟩ := KB.out w3 HT3.out
        have m0 := hl2.node 0 _ rfl
        have m1 := hl2.node 1 _ rfl
        have m2 := hl2.node 2 _ rfl
        have m3 := hl2.node 3 _ rfl
        have n0 := hl2.box 0 _ rfl
        have n1 := hl2.box 1 _ rfl
        have n2 := hl2.box 2 _ rfl
        have n3 := hl2.box 3 _ rfl
        have n4 := hl2.box 4 _ rfl
        have n5 := hl2.box 5 _ rfl
        have n6 := hl2.box 6 _ rfl
        have n7 := hl2.box 7 _ rfl
        have n8 := hl2.box 8 _ rfl
        have n9 := hl2.box 9 _ rfl
        have n10 := hl2.box 10 _ rfl
        have r0 := hxy 0 _ rfl
        have r1 := hxy 1 _ rfl
        simp only [Nat.zero_add] at m0 m1 m2 m3 n0 n1 n2 n3 n4 n5 n6 n7 n8 n9 n10 r0 r1
        have HBW_w3 := hid hbw
        clear hl2 hxy hbw hgz
        go_wp2_with fail
        refine (CNW.out _ HBW_w3.out).mono ?_
        rintro e0 w4 ⟨rfl, hb4⟩
        have HT4 := hid (bCl HT3.out hb4)
        clear hb4
        clear m0 m1 m2 m3 n0 n1 n2 n3 n4 n5 n6 n7 n8 n9 n10 r0 r1
        obtain ⟨hl2, hxy, hbw, hgz⟩ := KB.out w4 HT4.out
        have m0 := hl2.node 0 _ rfl
        have m1 := hl2.node 1 _ rfl
        have m2 := hl2.node 2 _ rfl
        have m3 := hl2.node 3 _ rfl
        have n0 := hl2.box 0 _ rfl
        have n1 := hl2.box 1 _ rfl
        have n2 := hl2.box 2 _ rfl
        have n3 := hl2.box 3 _ rfl
        have n4 := hl2.box 4 _ rfl
        have n5 := hl2.box 5 _ rfl
        have n6 := hl2.box 6 _ rfl
        have n7 := hl2.box 7 _ rfl
        have n8 := hl2.box 8 _ rfl
        have n9 := hl2.box 9 _ rfl
        have n10 := hl2.box 10 _ rfl
        have r0 := hxy 0 _ rfl
        have r1 := hxy 1 _ rfl
        simp only [Nat.zero_add] at m0 m1 m2 m3 n0 n1 n2 n3 n4 n5 n6 n7 n8 n9 n10 r0 r1
        have HBW_w4 := hid hbw
        clear hl2 hxy hbw hgz
        go_upto_region 5 with fail
        go_quiet (fail)
        go_upto_region 6 with fail
        have CAT := hid (fun W => at28_any b.f.kind b.f.name b.f.size b.f.w b.f.h b.f.d b.f.x b.f.y b.f.of_ x y Ak As b.kids.length ck b.f.src.length cs W)
        have CLI : Hid (∀ W g, Below w.heap.size w W → g = W.heap.size → Calls Tryd.prog 9 #[.int .i64 0, .int .i64 0, .int .i64 0, .slice (some ⟨g, 0, none⟩) 1 1] (W.alloc (.cells #[.int .i64 b.f.kind, .string b.f.name, .int .i64 b.f.size, .int .i64 b.f.w, .int .i64 b.f.h, .int .i64 b.f.d, .int .i64 x, .int .i64 y, .slice Ak b.kids.length ck, .int .i64 b.f.of_, .slice As b.f.src.length cs] 28)) (ListRes (W.alloc (.cells #[.int .i64 b.f.kind, .string b.f.name, .int .i64 b.f.size, .int .i64 b.f.w, .int .i64 b.f.h, .int .i64 b.f.d, .int .i64 x, .int .i64 y, .slice Ak b.kids.length ck, .int .i64 b.f.of_, .slice As b.f.src.length cs] 28)) 0 0 0 [movB b x y] (Lt W.heap.size))) := fun W g hW hg => by
          subst hg
          have hbi := HBI.out W hW
          have hbn := bNew W (.cells #[.int .i64 b.f.kind, .string b.f.name, .int .i64 b.f.size, .int .i64 b.f.w, .int .i64 b.f.h, .int .i64 b.f.d, .int .i64 x, .int .i64 y, .slice Ak b.kids.length ck, .int .i64 b.f.of_, .slice As b.f.src.length cs] 28)
          refine list28_any 0 0 0 [movB b x y] (some ⟨W.heap.size, 0, none⟩) 1 1 (Lt W.heap.size) (fun k => k = W.heap.size) _ _ rfl (by simp) (fun k hk => Nat.lt_of_lt_of_le hk hbn.size) (fun k hk => by simp [hk]) ?_ (movB_in hbi.ok HX64.out HY64.out (hbi.src.keep (fun p hp => hbn.cell hp) (fun _ h => h)) (hbi.kids.keep (fun p hp => hbn.cell hp) (fun _ h => h)))
          exact fun _ => ⟨W.heap.size, 0, rfl, rfl, BoxL.new _ _ _ _ rfl _ rfl⟩
        go_wp2_with fail
        refine (CAT.out _).mono ?_
        rintro e0 w5 ⟨rfl, hb5⟩
        have HT5 : Hid (Below W0.heap.size W0 w5) := bCl HT4.out (by first | exact hb5 | exact bDrN hb5 | exact bDr hb5)
        clear hb5
        clear m0 m1 m2 m3 n0 n1 n2 n3 n4 n5 n6 n7 n8 n9 n10 r0 r1
        have CLX := hid (CLI.out w5 w5.heap.size (KB.out w5 HT5.out).2.2.1 rfl)
        go_wp2_with fail
        refine CLX.out.mono ?_
        rintro e0 w6 ⟨hb6, v6, rfl, hk6⟩
        obtain ⟨Al, cl, hv6⟩ := hk6.form
        subst hv6
        have HT6' : Hid (Below W0.heap.size W0 w6) := bCl (bAl HT5.out _) hb6
        have HK6 : Hid (BoxesS w6 (Lt w6.heap.size) [movB b x y] (.slice Al 1 cl)) := hk6.keep (fun _ _ => rfl) (fun k hk => by
          rcases hk with hk | hk
          · have h1 := hb6.size
            have h2 : w5.heap.size < (w5.alloc (.cells #[.int .i64 b.f.kind, .string b.f.name, .int .i64 b.f.size, .int .i64 b.f.w, .int .i64 b.f.h, .int .i64 b.f.d, .int .i64 x, .int .i64 y, .slice Ak b.kids.length ck, .int .i64 b.f.of_, .slice As b.f.src.length cs] 28)).heap.size := by simp
            show k < w6.heap.size
            exact Nat.lt_of_lt_of_le (Nat.lt_trans hk h2) h1
          · exact hk.2)
        clear hb6 hk6
        go_upto_region 7 with fail
        obtain ⟨X6, hX6⟩ : ∃ W, w6.alloc (.cells #[.int .i64 3, .string ⟨#[]⟩, .int .i64 0, .int .i64 0, .int .i64 0, .int .i64 0, .int .i64 0, .int .i64 0, .slice Al 1 cl, .int .i64 0, .slice none 0 0] 28) = W := ⟨_, rfl⟩
        have hx6 : BoxL X6 w6.heap.size 0 [.int .i64 3, .string ⟨#[]⟩, .int .i64 0, .int .i64 0, .int .i64 0, .int .i64 0, .int .i64 0, .int .i64 0, .slice Al 1 cl, .int .i64 0, .slice none 0 0] ∧ w6.heap.size < X6.heap.size := by rw [← hX6]; exact ⟨BoxL.new _ _ _ _ rfl _ rfl, by simp⟩
        have hbx6 : Below w6.heap.size w6 X6 := by rw [← hX6]; exact bNew _ _
        have HT6 := hid (bCl HT6'.out hbx6)
        have HX6 := hid hx6
        have HKX := hid (HK6.out.below hbx6 hbx6.size)
        try rw [hX6]
        clear hX6 hx6 hbx6
        obtain ⟨hl2, hxy, hbw, hgz⟩ := KB.out X6 HT6.out
        have m0 := hl2.node 0 _ rfl
        have m1 := hl2.node 1 _ rfl
        have m2 := hl2.node 2 _ rfl
        have m3 := hl2.node 3 _ rfl
        have n0 := hl2.box 0 _ rfl
        have n1 := hl2.box 1 _ rfl
        have n2 := hl2.box 2 _ rfl
        have n3 := hl2.box 3 _ rfl
        have n4 := hl2.box 4 _ rfl
        have n5 := hl2.box 5 _ rfl
        have n6 := hl2.box 6 _ rfl
        have n7 := hl2.box 7 _ rfl
        have n8 := hl2.box 8 _ rfl
        have n9 := hl2.box 9 _ rfl
        have n10 := hl2.box 10 _ rfl
        have r0 := hxy 0 _ rfl
        have r1 := hxy 1 _ rfl
        simp only [Nat.zero_add] at m0 m1 m2 m3 n0 n1 n2 n3 n4 n5 n6 n7 n8 n9 n10 r0 r1
        have HBW_X6 := hid hbw
        clear hl2 hxy hbw hgz
        go_wp2_with fail
        refine (CA0.out _ HBW_X6.out).mono ?_
        rintro e0 w7 ⟨hb7, v7, rfl, hc7⟩
        obtain ⟨A7, c7, hv7⟩ := hc7.form
        subst hv7
        have HT7 := hid (bCl HT6.out hb7)
        have HC7 : Hid (CarsR w7 (Lt w7.heap.size) (carsR t b).1 (.slice A7 (carsR t b).1.length c7)) := hc7.keep (fun _ _ => rfl) (fun k hk => hk.2)
        have hl7 := HX6.out.1.below hb7 HX6.out.2
        have HBI7 : Hid (BoxIn w7 (lstB b x y) Al none cl 0) := ⟨lstF_ok, SliceR.nil_ 0 (Nat.zero_le _) none, HKX.out.below hb7 hb7.size⟩
        clear hb7 hc7
        clear m0 m1 m2 m3 n0 n1 n2 n3 n4 n5 n6 n7 n8 n9 n10 r0 r1
        obtain ⟨hl2, hxy, hbw, hgz⟩ := KB.out w7 HT7.out
        have m0 := hl2.node 0 _ rfl
        have m1 := hl2.node 1 _ rfl
        have m2 := hl2.node 2 _ rfl
        have m3 := hl2.node 3 _ rfl
        have n0 := hl2.box 0 _ rfl
        have n1 := hl2.box 1 _ rfl
        have n2 := hl2.box 2 _ rfl
        have n3 := hl2.box 3 _ rfl
        have n4 := hl2.box 4 _ rfl
        have n5 := hl2.box 5 _ rfl
        have n6 := hl2.box 6 _ rfl
        have n7 := hl2.box 7 _ rfl
        have n8 := hl2.box 8 _ rfl
        have n9 := hl2.box 9 _ rfl
        have n10 := hl2.box 10 _ rfl
        have r0 := hxy 0 _ rfl
        have r1 := hxy 1 _ rfl
        simp only [Nat.zero_add] at m0 m1 m2 m3 n0 n1 n2 n3 n4 n5 n6 n7 n8 n9 n10 r0 r1
        have HBW_w7 := hid hbw
        clear hl2 hxy hbw hgz
        have l0 := hl7 0 _ rfl
        have l1 := hl7 1 _ rfl
        have l2 := hl7 2 _ rfl
        have l3 := hl7 3 _ rfl
        have l4 := hl7 4 _ rfl
        have l5 := hl7 5 _ rfl
        have l6 := hl7 6 _ rfl
        have l7 := hl7 7 _ rfl
        have l8 := hl7 8 _ rfl
        have l9 := hl7 9 _ rfl
        have l10 := hl7 10 _ rfl
        simp only [Nat.zero_add] at l0 l1 l2 l3 l4 l5 l6 l7 l8 l9 l10
        clear hl7
        go_wp2_with fail
        refine (CL0.out _ Al cl HBW_w7.out HBI7.out).mono ?_
        generalize hrr : carsR t b = rr at *
        obtain ⟨ds, er⟩ := rr
        simp only at HC7 HSM
        rintro e0 w8 ⟨hb8, v8, rfl, hc8⟩
        simp only at hc8
        obtain ⟨A8, c8, hv8⟩ := hc8.form
        subst hv8
        have HT8 := hid (bCl HT7.out hb8)
        have HC8 : Hid (CarsR w8 (Lt w8.heap.size) (ds.map (movC x y)) (.slice A8 (ds.map (movC x y)).length c8)) := hc8.keep (fun _ _ => rfl) (fun k hk => hk.2)
        have HD8 := hid (HC7.out.below hb8 hb8.size)
        have hml : (ds.map (movC x y)).length = ds.length := by simp
        have hlen := HD8.out.lens
        unfold maxLen at hlen
        clear hb8 hc8 HC7 hrr
        clear m0 m1 m2 m3 n0 n1 n2 n3 n4 n5 n6 n7 n8 n9 n10 r0 r1 l0 l1 l2 l3 l4 l5 l6 l7 l8 l9 l10
        go_wp2_with fail
        go_loopw [14] (fun i wr => Below w8.heap.size w8 wr ∧ ∃ k : Nat, k ≤ ds.length ∧ i = .int .i64 k) (fun i _ => ds.length - (intOf i).toNat)
        case atStart => exact ⟨Below.refl _ _, 0, Nat.zero_le _, rfl⟩
        case round =>
          obtain ⟨hbr, k, hk, rfl⟩ := hrel
          have HBR := hid hbr
          rcases Nat.lt_or_ge k ds.length with hlt | hge
          · obtain ⟨_, _, rs, hq, _, _, hrd, hls⟩ := HD8.out.below hbr hbr.size
            cases hq
            have hC8 := HC8.out.below hbr hbr.size
            obtain ⟨_, _, rs', hq, _, _, hrd', hls'⟩ := hC8
            cases hq
            obtain ⟨ga, oa, Aa, ca, rfl, hga, a0, a1, a2, a3, _, hia⟩ := cars_at hrd hls hlt
            obtain ⟨gb, ob, Ab, cb, rfl, hgb, b0, b1, b2, b3, _, hib⟩ := cars_at hrd' hls' (k := k) (by rw [hml]; exact hlt)
            have hs := HSM.out _ (List.getElem_mem hlt)
            simp only [List.getElem_map, movC] at b0 b1 b2 b3 hib
            have i5 : decide ((k : Int) < (ds.length : Int)) = true := by rw [decide_eq_true_eq]; omega
            have i6 : (0 : Int) ≤ (k : Int) := by omega
            have i7 : (k : Int) < (ds.length : Int) := by omega
            clear hrd hls hrd' hls' hbr
            generalize ds[k] = d at *
            obtain ⟨ps, dx, top, bot⟩ := d
            simp only at a0 a1 a2 a3 b0 b1 b2 b3 hia hib hs
            obtain ⟨s1, s2, s3⟩ := hs
            unfold Sm at s1 s2 s3
            have v1 : IntKind.i64.wrap (dx + x - dx) = x := by rw [show dx + x - dx = x by omega]; exact vx
            have v2 : IntKind.i64.wrap (top + y - top) = y := by rw [show top + y - top = y by omega]; exact vy
            have v3 : IntKind.i64.wrap (bot + y - bot) = y := by rw [show bot + y - bot = y by omega]; exact vy
            have HCM : Hid (∀ n, Calls Tryd.prog 12 #[.slice Aa ps.length ca, .slice Ab ps.length cb] (wr.drewN n) fun e w' => e = .returned (.int .i64 0) ∧ ∃ m, w' = (wr.drewN n).drewN m) := fun n => by
              have h := compare_q ps ps (wr.drewN n) (.slice Aa ps.length ca) (.slice Ab ps.length cb) _ _ (hia.keep (fun _ _ => rfl) (fun _ h => h)) (hib.keep (fun _ _ => rfl) (fun _ h => h))
              rw [cmpS_self] at h
              exact h
            have HCM0 : Hid (Calls Tryd.prog 12 #[.slice Aa ps.length ca, .slice Ab ps.length cb] wr fun e w' => e = .returned (.int .i64 0) ∧ ∃ m, w' = wr.drewN m) := HCM.out 0
            clear hia hib s1 s2 s3
            generalize hdx : dx + x = dx2 at *
            generalize hty : top + y = top2 at *
            generalize hby : bot + y = bot2 at *
            clear hdx hty hby
            go_upto_region 14 with fail
            go_quiet ((go_at_call 12; exact Calls.quiet_of (HCM.out _)))
            go_wp2_with fail
            go_roundw
            case rel => exact ⟨bDn HBR.out _, k + 1, by omega, by go_num⟩
            case measure => simp [intOf]; omega
          · have i5 : decide ((k : Int) < (ds.length : Int)) = false := by rw [decide_eq_false_iff_not]; omega
            go_wp2_with fail
            go_ret
            exact ⟨rfl, (KB.out wr (bCl HT8.out HBR.out)).2.2.1⟩
end Go.Proofs.YtmahiejfniaahaaDoor
