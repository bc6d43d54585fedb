/- arrow.Move at a valid tree, box and position. Written by wip/genmov.py. -/
import Derived.Test.YtmahiejfniaahaaGreatDoorArrEv
import Derived.Laws.EntriesVeiled
set_option linter.unusedVariables false
set_option linter.unusedSimpArgs false
set_option maxRecDepth 100000
namespace Go.Proofs.YtmahiejfniaahaaGreatDoor
open Go.RowKit
theorem trees_cnt (ts : List Tree) : ts.length ≤ countsS ts := by
  induction ts with
  | nil => simp
  | cons t ts ih => rw [countsS, List.length_cons]; have : 0 < countS t := by { cases t; rw [countS]; omega }; omega
theorem kids_cnt (t : Tree) : t.kids.length ≤ countS t := by
  cases t with
  | mk k s c ts => rw [countS]; have := trees_cnt ts; show ts.length ≤ _; omega
theorem rowRes_rowS {t : Tree} {q : List Int} {t' : Tree} (hv : validS t = true) (h : rowS t q = some t') : rowRes t q = (t', 0) := by
  rw [find_row] at h
  unfold rowRes
  split at h
  · rename_i hf
    injection h with h
    rw [if_neg (by simp [hv]), if_neg (by simp [hf]), h]
  · cases h
set_option maxHeartbeats 4000000 in
theorem move0_any (t : Tree) (b : Bx) (p : List Int) (A Ak As Ap : Option Addr) (cap ck cs cp : Nat) (w : World) (hv : SliceR treeE w (Lt w.heap.size) t.kids (.slice A t.kids.length cap)) (hok : NodeOk t) (hb : BoxIn w b Ak As ck cs) (hp : IntsR w (Lt w.heap.size) p (.slice Ap p.length cp)) (hvt : validS t = true) (hvb : validB b = true) (hpi : posIn t p = true) :
    Calls Tryz.prog 29 #[nodeV t A cap, boxV b Ak As ck cs, .slice Ap p.length cp, .int .i64 0] w (PosRes w (moveS t p 0)) := by
  have hcnt := valid_count hvt
  obtain ⟨q, x, hqx⟩ := posIn_ne hpi
  obtain ⟨t', hr1, hr2, hr3⟩ := posIn_row t q x (by rw [← hqx]; exact hpi)
  have hrr := rowRes_rowS hvt hr1
  have hbd := posIn_bd t p hpi
  have hpl : p.length = q.length + 1 := by rw [hqx]; simp
  have hbt : countS t' ≤ countS t := (rowS_ok (w := w) (S := Lt w.heap.size) t q t' hr1 hok ⟨_, hv⟩).2
  have hkt : t'.kids.length ≤ countS t' := kids_cnt t'
  have CN : Hid (∀ W, Below w.heap.size w W → Calls Tryz.prog 57 #[nodeV t A cap] W fun e w' => e = .returned (.bool true) ∧ Below W.heap.size W w') := fun W hW => by
    have h := nValid_any t A cap W (hv.below hW hW.size) hok.2.2
    rw [hvt] at h
    exact h
  have CB : Hid (∀ W, Below w.heap.size w W → Calls Tryz.prog 58 #[boxV b Ak As ck cs] W fun e w' => e = .returned (.bool true) ∧ Below W.heap.size W w') := fun W hW => by
    have h := bValid_any b Ak As ck cs W hb.ok (hb.below hW).src (hb.below hW).kids
    rw [hvb] at h
    exact h
  have CP : Hid (∀ W, Below w.heap.size w W → Calls Tryz.prog 38 #[nodeV t A cap, .slice Ap p.length cp] W fun e w' => e = .returned (.bool true) ∧ Below W.heap.size W w') := fun W hW => by
    have h := posValid_any t p A cap (.slice Ap p.length cp) W (hv.below hW hW.size) hok.2.2 (hp.below hW hW.size)
    rw [hvt, hpi] at h
    exact h
  have he : moveS t p 0 = prevR t p := by rw [prev_eq, moveS, if_neg (by simp [hvt]), if_neg (by simp [hpi])]; simp
  have CM : Hid (∀ W, Below w.heap.size w W → Calls Tryz.prog 59 #[.agg #[.int .i64 t.kind, .string t.text, .int .i64 t.cols, .slice A t.kids.length cap, .int .i64 b.f.kind, .string b.f.name, .int .i64 b.f.size, .int .i64 b.f.w, .int .i64 b.f.h, .int .i64 b.f.d, .int .i64 b.f.x, .int .i64 b.f.y, .slice Ak b.kids.length ck, .int .i64 b.f.of_, .slice As b.f.src.length cs, .slice Ap p.length cp]] W (PosRes W (moveS t p 0))) := fun W hW => by
    rw [he]
    exact mleft_any t.kind t.text t.cols t.kids.length cap A Ak As Ap b.f.kind b.f.size b.f.w b.f.h b.f.d b.f.x b.f.y b.f.of_ b.f.name b.kids.length ck b.f.src.length cs p.length cp t p W ⟨rfl, rfl, rfl, rfl⟩ (hv.below hW hW.size) hok.2.2 (hp.below hW hW.size)
  generalize hW0 : (w.alloc (Obj.cells #[.int .i64 t.kind, .string t.text, .int .i64 t.cols, .slice A t.kids.length cap] 24)).alloc (Obj.cells (boxC b.f (.slice Ak b.kids.length ck) (.slice As b.f.src.length cs)) 28) = W0
  have hz0 : W0.heap.size = w.heap.size + 1 + 1 := by rw [← hW0]; simp
  have hB0 : Below w.heap.size w W0 := by rw [← hW0]; exact bAl (bNew _ _) _
  have hb4 : MovBox W0 w.heap.size #[.int .i64 t.kind, .string t.text, .int .i64 t.cols, .slice A t.kids.length cap] := by
    rw [← hW0]
    exact (MovBox.new w _ _ _ rfl).below (bNew _ _) (by simp)
  have hb11 : MovBox W0 (w.heap.size + 1) (boxC b.f (.slice Ak b.kids.length ck) (.slice As b.f.src.length cs)) := by
    rw [← hW0]
    exact MovBox.new _ _ _ _ (by simp)
  have KB : Hid (∀ W, Below W0.heap.size W0 W → MovBox W w.heap.size #[.int .i64 t.kind, .string t.text, .int .i64 t.cols, .slice A t.kids.length cap] ∧ MovBox W (w.heap.size + 1) (boxC b.f (.slice Ak b.kids.length ck) (.slice As b.f.src.length cs)) ∧ Below w.heap.size w W) := fun W hW =>
    ⟨hb4.below hW (by omega), hb11.below hW (by omega), hB0.trans (hW.mono hB0.size)⟩
  have HW0 := hid hB0
  generalize moveS t p 0 = R at *
  clear hv hok hb hp hvt hvb hpi hcnt hqx hr1 hr2 hr3 hrr hbd hpl hbt hkt he hz0 hB0 hb4 hb11
  obtain ⟨tk, tx, tc, ts⟩ := t
  obtain ⟨f, ks⟩ := b
  obtain ⟨kind, name, size, bw, bh, bd, bx, by_, of_, src⟩ := f
  simp only [nodeV, boxV, boxC, Tree.kind, Tree.text, Tree.cols, Tree.kids, Bx.f, Bx.kids] at *
  obtain ⟨hm, hn, _⟩ := KB.out W0 (Below.refl _ _)
  have m0 := hm 0 _ rfl
  have m1 := hm 1 _ rfl
  have m2 := hm 2 _ rfl
  have m3 := hm 3 _ rfl
  have n0 := hn 0 _ rfl
  have n1 := hn 1 _ rfl
  have n2 := hn 2 _ rfl
  have n3 := hn 3 _ rfl
  have n4 := hn 4 _ rfl
  have n5 := hn 5 _ rfl
  have n6 := hn 6 _ rfl
  have n7 := hn 7 _ rfl
  have n8 := hn 8 _ rfl
  have n9 := hn 9 _ rfl
  have n10 := hn 10 _ rfl
  clear hm hn
  go_enter Tryz.func29, Tryz.ntmps29
  go_wp2_with fail
  refine (CN.out _ HW0.out).mono ?_
  rintro e w1 ⟨rfl, hb1⟩
  obtain ⟨hm, hn, hbw⟩ := KB.out w1 hb1
  have HT1 := hid hb1
  have HW1 := hid hbw
  clear hb1 hbw hW0
  clear m0 m1 m2 m3 n0 n1 n2 n3 n4 n5 n6 n7 n8 n9 n10
  have m0 := hm 0 _ rfl
  have m1 := hm 1 _ rfl
  have m2 := hm 2 _ rfl
  have m3 := hm 3 _ rfl
  have n0 := hn 0 _ rfl
  have n1 := hn 1 _ rfl
  have n2 := hn 2 _ rfl
  have n3 := hn 3 _ rfl
  have n4 := hn 4 _ rfl
  have n5 := hn 5 _ rfl
  have n6 := hn 6 _ rfl
  have n7 := hn 7 _ rfl
  have n8 := hn 8 _ rfl
  have n9 := hn 9 _ rfl
  have n10 := hn 10 _ rfl
  clear hm hn
  go_wp2_with fail
  refine (CB.out _ HW1.out).mono ?_
  rintro e w2 ⟨rfl, hb2⟩
  have HT2 := hid (bCl HT1.out hb2)
  clear hb2
  obtain ⟨hm, hn, hbw⟩ := KB.out w2 HT2.out
  have HW2 := hid hbw
  clear hbw
  clear m0 m1 m2 m3 n0 n1 n2 n3 n4 n5 n6 n7 n8 n9 n10
  have m0 := hm 0 _ rfl
  have m1 := hm 1 _ rfl
  have m2 := hm 2 _ rfl
  have m3 := hm 3 _ rfl
  have n0 := hn 0 _ rfl
  have n1 := hn 1 _ rfl
  have n2 := hn 2 _ rfl
  have n3 := hn 3 _ rfl
  have n4 := hn 4 _ rfl
  have n5 := hn 5 _ rfl
  have n6 := hn 6 _ rfl
  have n7 := hn 7 _ rfl
  have n8 := hn 8 _ rfl
  have n9 := hn 9 _ rfl
  have n10 := hn 10 _ rfl
  clear hm hn
  go_wp2_with fail
  refine (CP.out _ HW2.out).mono ?_
  rintro e w3 ⟨rfl, hb3⟩
  have HT3 := hid (bCl HT2.out hb3)
  clear hb3
  obtain ⟨hm, hn, hbw⟩ := KB.out w3 HT3.out
  have HW3 := hid hbw
  clear hbw
  clear m0 m1 m2 m3 n0 n1 n2 n3 n4 n5 n6 n7 n8 n9 n10
  have m0 := hm 0 _ rfl
  have m1 := hm 1 _ rfl
  have m2 := hm 2 _ rfl
  have m3 := hm 3 _ rfl
  have n0 := hn 0 _ rfl
  have n1 := hn 1 _ rfl
  have n2 := hn 2 _ rfl
  have n3 := hn 3 _ rfl
  have n4 := hn 4 _ rfl
  have n5 := hn 5 _ rfl
  have n6 := hn 6 _ rfl
  have n7 := hn 7 _ rfl
  have n8 := hn 8 _ rfl
  have n9 := hn 9 _ rfl
  have n10 := hn 10 _ rfl
  clear hm hn
  go_wp2_with fail
  refine (CM.out _ (bAl (bAl HW3.out _) _)).mono ?_
  rintro e w4 ⟨hb4, v4, rfl, hi4⟩
  obtain ⟨A4, c4, rfl⟩ := hi4.form
  have HB4 := hid (bCl (bAl (bAl HW3.out _) _) hb4)
  have HI4 := hid hi4
  have HS := hid (bAl (bAl HW3.out (Obj.cells #[] 0)) (Obj.cells #[] 0)).size
  clear hb4 hi4
  go_wp2_with fail
  go_ret2
  exact ⟨HB4.out, _, rfl, HI4.out.keep (fun _ _ => rfl) (fun k hk => ⟨by have := HS.out; simp at this; have := hk.1; simp at this; omega, hk.2⟩)⟩
set_option maxHeartbeats 4000000 in
theorem move1_any (t : Tree) (b : Bx) (p : List Int) (A Ak As Ap : Option Addr) (cap ck cs cp : Nat) (w : World) (hv : SliceR treeE w (Lt w.heap.size) t.kids (.slice A t.kids.length cap)) (hok : NodeOk t) (hb : BoxIn w b Ak As ck cs) (hp : IntsR w (Lt w.heap.size) p (.slice Ap p.length cp)) (hvt : validS t = true) (hvb : validB b = true) (hpi : posIn t p = true) :
    Calls Tryz.prog 29 #[nodeV t A cap, boxV b Ak As ck cs, .slice Ap p.length cp, .int .i64 1] w (PosRes w (moveS t p 1)) := by
  have hcnt := valid_count hvt
  obtain ⟨q, x, hqx⟩ := posIn_ne hpi
  obtain ⟨t', hr1, hr2, hr3⟩ := posIn_row t q x (by rw [← hqx]; exact hpi)
  have hrr := rowRes_rowS hvt hr1
  have hbd := posIn_bd t p hpi
  have hpl : p.length = q.length + 1 := by rw [hqx]; simp
  have hbt : countS t' ≤ countS t := (rowS_ok (w := w) (S := Lt w.heap.size) t q t' hr1 hok ⟨_, hv⟩).2
  have hkt : t'.kids.length ≤ countS t' := kids_cnt t'
  have CN : Hid (∀ W, Below w.heap.size w W → Calls Tryz.prog 57 #[nodeV t A cap] W fun e w' => e = .returned (.bool true) ∧ Below W.heap.size W w') := fun W hW => by
    have h := nValid_any t A cap W (hv.below hW hW.size) hok.2.2
    rw [hvt] at h
    exact h
  have CB : Hid (∀ W, Below w.heap.size w W → Calls Tryz.prog 58 #[boxV b Ak As ck cs] W fun e w' => e = .returned (.bool true) ∧ Below W.heap.size W w') := fun W hW => by
    have h := bValid_any b Ak As ck cs W hb.ok (hb.below hW).src (hb.below hW).kids
    rw [hvb] at h
    exact h
  have CP : Hid (∀ W, Below w.heap.size w W → Calls Tryz.prog 38 #[nodeV t A cap, .slice Ap p.length cp] W fun e w' => e = .returned (.bool true) ∧ Below W.heap.size W w') := fun W hW => by
    have h := posValid_any t p A cap (.slice Ap p.length cp) W (hv.below hW hW.size) hok.2.2 (hp.below hW hW.size)
    rw [hvt, hpi] at h
    exact h
  have he : moveS t p 1 = nextR t p := by rw [next_eq, moveS, if_neg (by simp [hvt]), if_neg (by simp [hpi])]; simp
  have CM : Hid (∀ W, Below w.heap.size w W → Calls Tryz.prog 60 #[.agg #[.int .i64 t.kind, .string t.text, .int .i64 t.cols, .slice A t.kids.length cap, .int .i64 b.f.kind, .string b.f.name, .int .i64 b.f.size, .int .i64 b.f.w, .int .i64 b.f.h, .int .i64 b.f.d, .int .i64 b.f.x, .int .i64 b.f.y, .slice Ak b.kids.length ck, .int .i64 b.f.of_, .slice As b.f.src.length cs, .slice Ap p.length cp]] W (PosRes W (moveS t p 1))) := fun W hW => by
    rw [he]
    exact mright_any t.kind t.text t.cols t.kids.length cap A Ak As Ap b.f.kind b.f.size b.f.w b.f.h b.f.d b.f.x b.f.y b.f.of_ b.f.name b.kids.length ck b.f.src.length cs p.length cp t p W ⟨rfl, rfl, rfl, rfl⟩ (hv.below hW hW.size) hok.2.2 (hp.below hW hW.size)
  generalize hW0 : (w.alloc (Obj.cells #[.int .i64 t.kind, .string t.text, .int .i64 t.cols, .slice A t.kids.length cap] 24)).alloc (Obj.cells (boxC b.f (.slice Ak b.kids.length ck) (.slice As b.f.src.length cs)) 28) = W0
  have hz0 : W0.heap.size = w.heap.size + 1 + 1 := by rw [← hW0]; simp
  have hB0 : Below w.heap.size w W0 := by rw [← hW0]; exact bAl (bNew _ _) _
  have hb4 : MovBox W0 w.heap.size #[.int .i64 t.kind, .string t.text, .int .i64 t.cols, .slice A t.kids.length cap] := by
    rw [← hW0]
    exact (MovBox.new w _ _ _ rfl).below (bNew _ _) (by simp)
  have hb11 : MovBox W0 (w.heap.size + 1) (boxC b.f (.slice Ak b.kids.length ck) (.slice As b.f.src.length cs)) := by
    rw [← hW0]
    exact MovBox.new _ _ _ _ (by simp)
  have KB : Hid (∀ W, Below W0.heap.size W0 W → MovBox W w.heap.size #[.int .i64 t.kind, .string t.text, .int .i64 t.cols, .slice A t.kids.length cap] ∧ MovBox W (w.heap.size + 1) (boxC b.f (.slice Ak b.kids.length ck) (.slice As b.f.src.length cs)) ∧ Below w.heap.size w W) := fun W hW =>
    ⟨hb4.below hW (by omega), hb11.below hW (by omega), hB0.trans (hW.mono hB0.size)⟩
  have HW0 := hid hB0
  generalize moveS t p 1 = R at *
  clear hv hok hb hp hvt hvb hpi hcnt hqx hr1 hr2 hr3 hrr hbd hpl hbt hkt he hz0 hB0 hb4 hb11
  obtain ⟨tk, tx, tc, ts⟩ := t
  obtain ⟨f, ks⟩ := b
  obtain ⟨kind, name, size, bw, bh, bd, bx, by_, of_, src⟩ := f
  simp only [nodeV, boxV, boxC, Tree.kind, Tree.text, Tree.cols, Tree.kids, Bx.f, Bx.kids] at *
  obtain ⟨hm, hn, _⟩ := KB.out W0 (Below.refl _ _)
  have m0 := hm 0 _ rfl
  have m1 := hm 1 _ rfl
  have m2 := hm 2 _ rfl
  have m3 := hm 3 _ rfl
  have n0 := hn 0 _ rfl
  have n1 := hn 1 _ rfl
  have n2 := hn 2 _ rfl
  have n3 := hn 3 _ rfl
  have n4 := hn 4 _ rfl
  have n5 := hn 5 _ rfl
  have n6 := hn 6 _ rfl
  have n7 := hn 7 _ rfl
  have n8 := hn 8 _ rfl
  have n9 := hn 9 _ rfl
  have n10 := hn 10 _ rfl
  clear hm hn
  go_enter Tryz.func29, Tryz.ntmps29
  go_wp2_with fail
  refine (CN.out _ HW0.out).mono ?_
  rintro e w1 ⟨rfl, hb1⟩
  obtain ⟨hm, hn, hbw⟩ := KB.out w1 hb1
  have HT1 := hid hb1
  have HW1 := hid hbw
  clear hb1 hbw hW0
  clear m0 m1 m2 m3 n0 n1 n2 n3 n4 n5 n6 n7 n8 n9 n10
  have m0 := hm 0 _ rfl
  have m1 := hm 1 _ rfl
  have m2 := hm 2 _ rfl
  have m3 := hm 3 _ rfl
  have n0 := hn 0 _ rfl
  have n1 := hn 1 _ rfl
  have n2 := hn 2 _ rfl
  have n3 := hn 3 _ rfl
  have n4 := hn 4 _ rfl
  have n5 := hn 5 _ rfl
  have n6 := hn 6 _ rfl
  have n7 := hn 7 _ rfl
  have n8 := hn 8 _ rfl
  have n9 := hn 9 _ rfl
  have n10 := hn 10 _ rfl
  clear hm hn
  go_wp2_with fail
  refine (CB.out _ HW1.out).mono ?_
  rintro e w2 ⟨rfl, hb2⟩
  have HT2 := hid (bCl HT1.out hb2)
  clear hb2
  obtain ⟨hm, hn, hbw⟩ := KB.out w2 HT2.out
  have HW2 := hid hbw
  clear hbw
  clear m0 m1 m2 m3 n0 n1 n2 n3 n4 n5 n6 n7 n8 n9 n10
  have m0 := hm 0 _ rfl
  have m1 := hm 1 _ rfl
  have m2 := hm 2 _ rfl
  have m3 := hm 3 _ rfl
  have n0 := hn 0 _ rfl
  have n1 := hn 1 _ rfl
  have n2 := hn 2 _ rfl
  have n3 := hn 3 _ rfl
  have n4 := hn 4 _ rfl
  have n5 := hn 5 _ rfl
  have n6 := hn 6 _ rfl
  have n7 := hn 7 _ rfl
  have n8 := hn 8 _ rfl
  have n9 := hn 9 _ rfl
  have n10 := hn 10 _ rfl
  clear hm hn
  go_wp2_with fail
  refine (CP.out _ HW2.out).mono ?_
  rintro e w3 ⟨rfl, hb3⟩
  have HT3 := hid (bCl HT2.out hb3)
  clear hb3
  obtain ⟨hm, hn, hbw⟩ := KB.out w3 HT3.out
  have HW3 := hid hbw
  clear hbw
  clear m0 m1 m2 m3 n0 n1 n2 n3 n4 n5 n6 n7 n8 n9 n10
  have m0 := hm 0 _ rfl
  have m1 := hm 1 _ rfl
  have m2 := hm 2 _ rfl
  have m3 := hm 3 _ rfl
  have n0 := hn 0 _ rfl
  have n1 := hn 1 _ rfl
  have n2 := hn 2 _ rfl
  have n3 := hn 3 _ rfl
  have n4 := hn 4 _ rfl
  have n5 := hn 5 _ rfl
  have n6 := hn 6 _ rfl
  have n7 := hn 7 _ rfl
  have n8 := hn 8 _ rfl
  have n9 := hn 9 _ rfl
  have n10 := hn 10 _ rfl
  clear hm hn
  go_wp2_with fail
  refine (CM.out _ (bAl (bAl HW3.out _) _)).mono ?_
  rintro e w4 ⟨hb4, v4, rfl, hi4⟩
  obtain ⟨A4, c4, rfl⟩ := hi4.form
  have HB4 := hid (bCl (bAl (bAl HW3.out _) _) hb4)
  have HI4 := hid hi4
  have HS := hid (bAl (bAl HW3.out (Obj.cells #[] 0)) (Obj.cells #[] 0)).size
  clear hb4 hi4
  go_wp2_with fail
  go_ret2
  exact ⟨HB4.out, _, rfl, HI4.out.keep (fun _ _ => rfl) (fun k hk => ⟨by have := HS.out; simp at this; have := hk.1; simp at this; omega, hk.2⟩)⟩
set_option maxHeartbeats 4000000 in
theorem move2_any (t : Tree) (b : Bx) (p : List Int) (A Ak As Ap : Option Addr) (cap ck cs cp : Nat) (w : World) (hv : SliceR treeE w (Lt w.heap.size) t.kids (.slice A t.kids.length cap)) (hok : NodeOk t) (hb : BoxIn w b Ak As ck cs) (hp : IntsR w (Lt w.heap.size) p (.slice Ap p.length cp)) (hvt : validS t = true) (hvb : validB b = true) (hpi : posIn t p = true) :
    Calls Tryz.prog 29 #[nodeV t A cap, boxV b Ak As ck cs, .slice Ap p.length cp, .int .i64 2] w (PosRes w (moveS t p 2)) := by
  have hcnt := valid_count hvt
  obtain ⟨q, x, hqx⟩ := posIn_ne hpi
  obtain ⟨t', hr1, hr2, hr3⟩ := posIn_row t q x (by rw [← hqx]; exact hpi)
  have hrr := rowRes_rowS hvt hr1
  have hbd := posIn_bd t p hpi
  have hpl : p.length = q.length + 1 := by rw [hqx]; simp
  have hbt : countS t' ≤ countS t := (rowS_ok (w := w) (S := Lt w.heap.size) t q t' hr1 hok ⟨_, hv⟩).2
  have hkt : t'.kids.length ≤ countS t' := kids_cnt t'
  have CN : Hid (∀ W, Below w.heap.size w W → Calls Tryz.prog 57 #[nodeV t A cap] W fun e w' => e = .returned (.bool true) ∧ Below W.heap.size W w') := fun W hW => by
    have h := nValid_any t A cap W (hv.below hW hW.size) hok.2.2
    rw [hvt] at h
    exact h
  have CB : Hid (∀ W, Below w.heap.size w W → Calls Tryz.prog 58 #[boxV b Ak As ck cs] W fun e w' => e = .returned (.bool true) ∧ Below W.heap.size W w') := fun W hW => by
    have h := bValid_any b Ak As ck cs W hb.ok (hb.below hW).src (hb.below hW).kids
    rw [hvb] at h
    exact h
  have CP : Hid (∀ W, Below w.heap.size w W → Calls Tryz.prog 38 #[nodeV t A cap, .slice Ap p.length cp] W fun e w' => e = .returned (.bool true) ∧ Below W.heap.size W w') := fun W hW => by
    have h := posValid_any t p A cap (.slice Ap p.length cp) W (hv.below hW hW.size) hok.2.2 (hp.below hW hW.size)
    rw [hvt, hpi] at h
    exact h
  have he : moveS t p 2 = (q ++ [0], 0) := by
    have h := (move_row hvt (by rw [← hqx]; exact hpi) (.inl rfl)).1
    rw [← hqx] at h
    rw [h]; simp
  have CM : Hid (∀ W, Below w.heap.size w W → Calls Tryz.prog 61 #[.agg #[.int .i64 t.kind, .string t.text, .int .i64 t.cols, .slice A t.kids.length cap, .int .i64 b.f.kind, .string b.f.name, .int .i64 b.f.size, .int .i64 b.f.w, .int .i64 b.f.h, .int .i64 b.f.d, .int .i64 b.f.x, .int .i64 b.f.y, .slice Ak b.kids.length ck, .int .i64 b.f.of_, .slice As b.f.src.length cs, .slice Ap p.length cp]] W (PosRes W (moveS t p 2))) := fun W hW => by
    rw [he]
    have hp2 := hp.below hW hW.size
    exact mhome_any t.kind t.text t.cols t.kids.length cap A Ak As Ap b.f.kind b.f.size b.f.w b.f.h b.f.d b.f.x b.f.y b.f.of_ b.f.name b.kids.length ck b.f.src.length cs p.length cp q x W (by rw [← hqx]; exact hp2) hpl (by omega)
  generalize hW0 : (w.alloc (Obj.cells #[.int .i64 t.kind, .string t.text, .int .i64 t.cols, .slice A t.kids.length cap] 24)).alloc (Obj.cells (boxC b.f (.slice Ak b.kids.length ck) (.slice As b.f.src.length cs)) 28) = W0
  have hz0 : W0.heap.size = w.heap.size + 1 + 1 := by rw [← hW0]; simp
  have hB0 : Below w.heap.size w W0 := by rw [← hW0]; exact bAl (bNew _ _) _
  have hb4 : MovBox W0 w.heap.size #[.int .i64 t.kind, .string t.text, .int .i64 t.cols, .slice A t.kids.length cap] := by
    rw [← hW0]
    exact (MovBox.new w _ _ _ rfl).below (bNew _ _) (by simp)
  have hb11 : MovBox W0 (w.heap.size + 1) (boxC b.f (.slice Ak b.kids.length ck) (.slice As b.f.src.length cs)) := by
    rw [← hW0]
    exact MovBox.new _ _ _ _ (by simp)
  have KB : Hid (∀ W, Below W0.heap.size W0 W → MovBox W w.heap.size #[.int .i64 t.kind, .string t.text, .int .i64 t.cols, .slice A t.kids.length cap] ∧ MovBox W (w.heap.size + 1) (boxC b.f (.slice Ak b.kids.length ck) (.slice As b.f.src.length cs)) ∧ Below w.heap.size w W) := fun W hW =>
    ⟨hb4.below hW (by omega), hb11.below hW (by omega), hB0.trans (hW.mono hB0.size)⟩
  have HW0 := hid hB0
  generalize moveS t p 2 = R at *
  clear hv hok hb hp hvt hvb hpi hcnt hqx hr1 hr2 hr3 hrr hbd hpl hbt hkt he hz0 hB0 hb4 hb11
  obtain ⟨tk, tx, tc, ts⟩ := t
  obtain ⟨f, ks⟩ := b
  obtain ⟨kind, name, size, bw, bh, bd, bx, by_, of_, src⟩ := f
  simp only [nodeV, boxV, boxC, Tree.kind, Tree.text, Tree.cols, Tree.kids, Bx.f, Bx.kids] at *
  obtain ⟨hm, hn, _⟩ := KB.out W0 (Below.refl _ _)
  have m0 := hm 0 _ rfl
  have m1 := hm 1 _ rfl
  have m2 := hm 2 _ rfl
  have m3 := hm 3 _ rfl
  have n0 := hn 0 _ rfl
  have n1 := hn 1 _ rfl
  have n2 := hn 2 _ rfl
  have n3 := hn 3 _ rfl
  have n4 := hn 4 _ rfl
  have n5 := hn 5 _ rfl
  have n6 := hn 6 _ rfl
  have n7 := hn 7 _ rfl
  have n8 := hn 8 _ rfl
  have n9 := hn 9 _ rfl
  have n10 := hn 10 _ rfl
  clear hm hn
  go_enter Tryz.func29, Tryz.ntmps29
  go_wp2_with fail
  refine (CN.out _ HW0.out).mono ?_
  rintro e w1 ⟨rfl, hb1⟩
  obtain ⟨hm, hn, hbw⟩ := KB.out w1 hb1
  have HT1 := hid hb1
  have HW1 := hid hbw
  clear hb1 hbw hW0
  clear m0 m1 m2 m3 n0 n1 n2 n3 n4 n5 n6 n7 n8 n9 n10
  have m0 := hm 0 _ rfl
  have m1 := hm 1 _ rfl
  have m2 := hm 2 _ rfl
  have m3 := hm 3 _ rfl
  have n0 := hn 0 _ rfl
  have n1 := hn 1 _ rfl
  have n2 := hn 2 _ rfl
  have n3 := hn 3 _ rfl
  have n4 := hn 4 _ rfl
  have n5 := hn 5 _ rfl
  have n6 := hn 6 _ rfl
  have n7 := hn 7 _ rfl
  have n8 := hn 8 _ rfl
  have n9 := hn 9 _ rfl
  have n10 := hn 10 _ rfl
  clear hm hn
  go_wp2_with fail
  refine (CB.out _ HW1.out).mono ?_
  rintro e w2 ⟨rfl, hb2⟩
  have HT2 := hid (bCl HT1.out hb2)
  clear hb2
  obtain ⟨hm, hn, hbw⟩ := KB.out w2 HT2.out
  have HW2 := hid hbw
  clear hbw
  clear m0 m1 m2 m3 n0 n1 n2 n3 n4 n5 n6 n7 n8 n9 n10
  have m0 := hm 0 _ rfl
  have m1 := hm 1 _ rfl
  have m2 := hm 2 _ rfl
  have m3 := hm 3 _ rfl
  have n0 := hn 0 _ rfl
  have n1 := hn 1 _ rfl
  have n2 := hn 2 _ rfl
  have n3 := hn 3 _ rfl
  have n4 := hn 4 _ rfl
  have n5 := hn 5 _ rfl
  have n6 := hn 6 _ rfl
  have n7 := hn 7 _ rfl
  have n8 := hn 8 _ rfl
  have n9 := hn 9 _ rfl
  have n10 := hn 10 _ rfl
  clear hm hn
  go_wp2_with fail
  refine (CP.out _ HW2.out).mono ?_
  rintro e w3 ⟨rfl, hb3⟩
  have HT3 := hid (bCl HT2.out hb3)
  clear hb3
  obtain ⟨hm, hn, hbw⟩ := KB.out w3 HT3.out
  have HW3 := hid hbw
  clear hbw
  clear m0 m1 m2 m3 n0 n1 n2 n3 n4 n5 n6 n7 n8 n9 n10
  have m0 := hm 0 _ rfl
  have m1 := hm 1 _ rfl
  have m2 := hm 2 _ rfl
  have m3 := hm 3 _ rfl
  have n0 := hn 0 _ rfl
  have n1 := hn 1 _ rfl
  have n2 := hn 2 _ rfl
  have n3 := hn 3 _ rfl
  have n4 := hn 4 _ rfl
  have n5 := hn 5 _ rfl
  have n6 := hn 6 _ rfl
  have n7 := hn 7 _ rfl
  have n8 := hn 8 _ rfl
  have n9 := hn 9 _ rfl
  have n10 := hn 10 _ rfl
  clear hm hn
  go_wp2_with fail
  refine (CM.out _ (bAl (bAl HW3.out _) _)).mono ?_
  rintro e w4 ⟨hb4, v4, rfl, hi4⟩
  obtain ⟨A4, c4, rfl⟩ := hi4.form
  have HB4 := hid (bCl (bAl (bAl HW3.out _) _) hb4)
  have HI4 := hid hi4
  have HS := hid (bAl (bAl HW3.out (Obj.cells #[] 0)) (Obj.cells #[] 0)).size
  clear hb4 hi4
  go_wp2_with fail
  go_ret2
  exact ⟨HB4.out, _, rfl, HI4.out.keep (fun _ _ => rfl) (fun k hk => ⟨by have := HS.out; simp at this; have := hk.1; simp at this; omega, hk.2⟩)⟩
set_option maxHeartbeats 4000000 in
theorem move3_any (t : Tree) (b : Bx) (p : List Int) (A Ak As Ap : Option Addr) (cap ck cs cp : Nat) (w : World) (hv : SliceR treeE w (Lt w.heap.size) t.kids (.slice A t.kids.length cap)) (hok : NodeOk t) (hb : BoxIn w b Ak As ck cs) (hp : IntsR w (Lt w.heap.size) p (.slice Ap p.length cp)) (hvt : validS t = true) (hvb : validB b = true) (hpi : posIn t p = true) :
    Calls Tryz.prog 29 #[nodeV t A cap, boxV b Ak As ck cs, .slice Ap p.length cp, .int .i64 3] w (PosRes w (moveS t p 3)) := by
  have hcnt := valid_count hvt
  obtain ⟨q, x, hqx⟩ := posIn_ne hpi
  obtain ⟨t', hr1, hr2, hr3⟩ := posIn_row t q x (by rw [← hqx]; exact hpi)
  have hrr := rowRes_rowS hvt hr1
  have hbd := posIn_bd t p hpi
  have hpl : p.length = q.length + 1 := by rw [hqx]; simp
  have hbt : countS t' ≤ countS t := (rowS_ok (w := w) (S := Lt w.heap.size) t q t' hr1 hok ⟨_, hv⟩).2
  have hkt : t'.kids.length ≤ countS t' := kids_cnt t'
  have CN : Hid (∀ W, Below w.heap.size w W → Calls Tryz.prog 57 #[nodeV t A cap] W fun e w' => e = .returned (.bool true) ∧ Below W.heap.size W w') := fun W hW => by
    have h := nValid_any t A cap W (hv.below hW hW.size) hok.2.2
    rw [hvt] at h
    exact h
  have CB : Hid (∀ W, Below w.heap.size w W → Calls Tryz.prog 58 #[boxV b Ak As ck cs] W fun e w' => e = .returned (.bool true) ∧ Below W.heap.size W w') := fun W hW => by
    have h := bValid_any b Ak As ck cs W hb.ok (hb.below hW).src (hb.below hW).kids
    rw [hvb] at h
    exact h
  have CP : Hid (∀ W, Below w.heap.size w W → Calls Tryz.prog 38 #[nodeV t A cap, .slice Ap p.length cp] W fun e w' => e = .returned (.bool true) ∧ Below W.heap.size W w') := fun W hW => by
    have h := posValid_any t p A cap (.slice Ap p.length cp) W (hv.below hW hW.size) hok.2.2 (hp.below hW hW.size)
    rw [hvt, hpi] at h
    exact h
  have he : moveS t p 3 = (q ++ [((rowRes t q).1.kids.length : Int)], 0) := by
    have h := (move_row hvt (by rw [← hqx]; exact hpi) (.inr rfl)).1
    rw [← hqx] at h
    rw [h, hrr, rowLen, hr1]; simp
  have CM : Hid (∀ W, Below w.heap.size w W → Calls Tryz.prog 62 #[.agg #[.int .i64 t.kind, .string t.text, .int .i64 t.cols, .slice A t.kids.length cap, .int .i64 b.f.kind, .string b.f.name, .int .i64 b.f.size, .int .i64 b.f.w, .int .i64 b.f.h, .int .i64 b.f.d, .int .i64 b.f.x, .int .i64 b.f.y, .slice Ak b.kids.length ck, .int .i64 b.f.of_, .slice As b.f.src.length cs, .slice Ap p.length cp]] W (PosRes W (moveS t p 3))) := fun W hW => by
    rw [he]
    have hp2 := hp.below hW hW.size
    exact mend_any t.kind t.text t.cols t.kids.length cap A Ak As Ap b.f.kind b.f.size b.f.w b.f.h b.f.d b.f.x b.f.y b.f.of_ b.f.name b.kids.length ck b.f.src.length cs p.length cp t q x W ⟨rfl, rfl, rfl, rfl⟩ (hv.below hW hW.size) hok (by omega) (by rw [← hqx]; exact hp2) hpl (by omega) (by rw [hrr]) (by rw [hrr]; show t'.kids.length ≤ _; omega)
  generalize hW0 : (w.alloc (Obj.cells #[.int .i64 t.kind, .string t.text, .int .i64 t.cols, .slice A t.kids.length cap] 24)).alloc (Obj.cells (boxC b.f (.slice Ak b.kids.length ck) (.slice As b.f.src.length cs)) 28) = W0
  have hz0 : W0.heap.size = w.heap.size + 1 + 1 := by rw [← hW0]; simp
  have hB0 : Below w.heap.size w W0 := by rw [← hW0]; exact bAl (bNew _ _) _
  have hb4 : MovBox W0 w.heap.size #[.int .i64 t.kind, .string t.text, .int .i64 t.cols, .slice A t.kids.length cap] := by
    rw [← hW0]
    exact (MovBox.new w _ _ _ rfl).below (bNew _ _) (by simp)
  have hb11 : MovBox W0 (w.heap.size + 1) (boxC b.f (.slice Ak b.kids.length ck) (.slice As b.f.src.length cs)) := by
    rw [← hW0]
    exact MovBox.new _ _ _ _ (by simp)
  have KB : Hid (∀ W, Below W0.heap.size W0 W → MovBox W w.heap.size #[.int .i64 t.kind, .string t.text, .int .i64 t.cols, .slice A t.kids.length cap] ∧ MovBox W (w.heap.size + 1) (boxC b.f (.slice Ak b.kids.length ck) (.slice As b.f.src.length cs)) ∧ Below w.heap.size w W) := fun W hW =>
    ⟨hb4.below hW (by omega), hb11.below hW (by omega), hB0.trans (hW.mono hB0.size)⟩
  have HW0 := hid hB0
  generalize moveS t p 3 = R at *
  clear hv hok hb hp hvt hvb hpi hcnt hqx hr1 hr2 hr3 hrr hbd hpl hbt hkt he hz0 hB0 hb4 hb11
  obtain ⟨tk, tx, tc, ts⟩ := t
  obtain ⟨f, ks⟩ := b
  obtain ⟨kind, name, size, bw, bh, bd, bx, by_, of_, src⟩ := f
  simp only [nodeV, boxV, boxC, Tree.kind, Tree.text, Tree.cols, Tree.kids, Bx.f, Bx.kids] at *
  obtain ⟨hm, hn, _⟩ := KB.out W0 (Below.refl _ _)
  have m0 := hm 0 _ rfl
  have m1 := hm 1 _ rfl
  have m2 := hm 2 _ rfl
  have m3 := hm 3 _ rfl
  have n0 := hn 0 _ rfl
  have n1 := hn 1 _ rfl
  have n2 := hn 2 _ rfl
  have n3 := hn 3 _ rfl
  have n4 := hn 4 _ rfl
  have n5 := hn 5 _ rfl
  have n6 := hn 6 _ rfl
  have n7 := hn 7 _ rfl
  have n8 := hn 8 _ rfl
  have n9 := hn 9 _ rfl
  have n10 := hn 10 _ rfl
  clear hm hn
  go_enter Tryz.func29, Tryz.ntmps29
  go_wp2_with fail
  refine (CN.out _ HW0.out).mono ?_
  rintro e w1 ⟨rfl, hb1⟩
  obtain ⟨hm, hn, hbw⟩ := KB.out w1 hb1
  have HT1 := hid hb1
  have HW1 := hid hbw
  clear hb1 hbw hW0
  clear m0 m1 m2 m3 n0 n1 n2 n3 n4 n5 n6 n7 n8 n9 n10
  have m0 := hm 0 _ rfl
  have m1 := hm 1 _ rfl
  have m2 := hm 2 _ rfl
  have m3 := hm 3 _ rfl
  have n0 := hn 0 _ rfl
  have n1 := hn 1 _ rfl
  have n2 := hn 2 _ rfl
  have n3 := hn 3 _ rfl
  have n4 := hn 4 _ rfl
  have n5 := hn 5 _ rfl
  have n6 := hn 6 _ rfl
  have n7 := hn 7 _ rfl
  have n8 := hn 8 _ rfl
  have n9 := hn 9 _ rfl
  have n10 := hn 10 _ rfl
  clear hm hn
  go_wp2_with fail
  refine (CB.out _ HW1.out).mono ?_
  rintro e w2 ⟨rfl, hb2⟩
  have HT2 := hid (bCl HT1.out hb2)
  clear hb2
  obtain ⟨hm, hn, hbw⟩ := KB.out w2 HT2.out
  have HW2 := hid hbw
  clear hbw
  clear m0 m1 m2 m3 n0 n1 n2 n3 n4 n5 n6 n7 n8 n9 n10
  have m0 := hm 0 _ rfl
  have m1 := hm 1 _ rfl
  have m2 := hm 2 _ rfl
  have m3 := hm 3 _ rfl
  have n0 := hn 0 _ rfl
  have n1 := hn 1 _ rfl
  have n2 := hn 2 _ rfl
  have n3 := hn 3 _ rfl
  have n4 := hn 4 _ rfl
  have n5 := hn 5 _ rfl
  have n6 := hn 6 _ rfl
  have n7 := hn 7 _ rfl
  have n8 := hn 8 _ rfl
  have n9 := hn 9 _ rfl
  have n10 := hn 10 _ rfl
  clear hm hn
  go_wp2_with fail
  refine (CP.out _ HW2.out).mono ?_
  rintro e w3 ⟨rfl, hb3⟩
  have HT3 := hid (bCl HT2.out hb3)
  clear hb3
  obtain ⟨hm, hn, hbw⟩ := KB.out w3 HT3.out
  have HW3 := hid hbw
  clear hbw
  clear m0 m1 m2 m3 n0 n1 n2 n3 n4 n5 n6 n7 n8 n9 n10
  have m0 := hm 0 _ rfl
  have m1 := hm 1 _ rfl
  have m2 := hm 2 _ rfl
  have m3 := hm 3 _ rfl
  have n0 := hn 0 _ rfl
  have n1 := hn 1 _ rfl
  have n2 := hn 2 _ rfl
  have n3 := hn 3 _ rfl
  have n4 := hn 4 _ rfl
  have n5 := hn 5 _ rfl
  have n6 := hn 6 _ rfl
  have n7 := hn 7 _ rfl
  have n8 := hn 8 _ rfl
  have n9 := hn 9 _ rfl
  have n10 := hn 10 _ rfl
  clear hm hn
  go_wp2_with fail
  refine (CM.out _ (bAl (bAl HW3.out _) _)).mono ?_
  rintro e w4 ⟨hb4, v4, rfl, hi4⟩
  obtain ⟨A4, c4, rfl⟩ := hi4.form
  have HB4 := hid (bCl (bAl (bAl HW3.out _) _) hb4)
  have HI4 := hid hi4
  have HS := hid (bAl (bAl HW3.out (Obj.cells #[] 0)) (Obj.cells #[] 0)).size
  clear hb4 hi4
  go_wp2_with fail
  go_ret2
  exact ⟨HB4.out, _, rfl, HI4.out.keep (fun _ _ => rfl) (fun k hk => ⟨by have := HS.out; simp at this; have := hk.1; simp at this; omega, hk.2⟩)⟩
set_option maxHeartbeats 4000000 in
theorem move4_any (t : Tree) (b : Bx) (p : List Int) (A Ak As Ap : Option Addr) (cap ck cs cp : Nat) (w : World) (hv : SliceR treeE w (Lt w.heap.size) t.kids (.slice A t.kids.length cap)) (hok : NodeOk t) (hb : BoxIn w b Ak As ck cs) (hp : IntsR w (Lt w.heap.size) p (.slice Ap p.length cp)) (hvt : validS t = true) (hvb : validB b = true) (hpi : posIn t p = true) (hk : b.kids = []) (hof : b.f.of_ ≠ 1) :
    Calls Tryz.prog 29 #[nodeV t A cap, boxV b Ak As ck cs, .slice Ap p.length cp, .int .i64 4] w (NoneRes w 8) := by
  have hcnt := valid_count hvt
  obtain ⟨q, x, hqx⟩ := posIn_ne hpi
  obtain ⟨t', hr1, hr2, hr3⟩ := posIn_row t q x (by rw [← hqx]; exact hpi)
  have hrr := rowRes_rowS hvt hr1
  have hbd := posIn_bd t p hpi
  have hpl : p.length = q.length + 1 := by rw [hqx]; simp
  have hbt : countS t' ≤ countS t := (rowS_ok (w := w) (S := Lt w.heap.size) t q t' hr1 hok ⟨_, hv⟩).2
  have hkt : t'.kids.length ≤ countS t' := kids_cnt t'
  have CN : Hid (∀ W, Below w.heap.size w W → Calls Tryz.prog 57 #[nodeV t A cap] W fun e w' => e = .returned (.bool true) ∧ Below W.heap.size W w') := fun W hW => by
    have h := nValid_any t A cap W (hv.below hW hW.size) hok.2.2
    rw [hvt] at h
    exact h
  have CB : Hid (∀ W, Below w.heap.size w W → Calls Tryz.prog 58 #[boxV b Ak As ck cs] W fun e w' => e = .returned (.bool true) ∧ Below W.heap.size W w') := fun W hW => by
    have h := bValid_any b Ak As ck cs W hb.ok (hb.below hW).src (hb.below hW).kids
    rw [hvb] at h
    exact h
  have CP : Hid (∀ W, Below w.heap.size w W → Calls Tryz.prog 38 #[nodeV t A cap, .slice Ap p.length cp] W fun e w' => e = .returned (.bool true) ∧ Below W.heap.size W w') := fun W hW => by
    have h := posValid_any t p A cap (.slice Ap p.length cp) W (hv.below hW hW.size) hok.2.2 (hp.below hW hW.size)
    rw [hvt, hpi] at h
    exact h
  have CM : Hid (∀ W, Below w.heap.size w W → Calls Tryz.prog 63 #[.agg #[.int .i64 t.kind, .string t.text, .int .i64 t.cols, .slice A t.kids.length cap, .int .i64 b.f.kind, .string b.f.name, .int .i64 b.f.size, .int .i64 b.f.w, .int .i64 b.f.h, .int .i64 b.f.d, .int .i64 b.f.x, .int .i64 b.f.y, .slice Ak b.kids.length ck, .int .i64 b.f.of_, .slice As b.f.src.length cs, .slice Ap p.length cp]] W (NoneRes W 8)) := fun W hW =>
    mup_none t.kind t.text t.cols t.kids.length cap A Ak As Ap b.f.kind b.f.size b.f.w b.f.h b.f.d b.f.x b.f.y b.f.of_ b.f.name b.kids.length ck b.f.src.length cs p.length cp t b 8 W ⟨rfl, rfl, rfl, rfl⟩ ⟨rfl, rfl, rfl, rfl, rfl, rfl, rfl, rfl, rfl, rfl, rfl⟩ (by omega) (fun W2 hW2 => by
      have h := hW.trans (hW2.mono hW.size)
      exact call_leaf t b A Ak As cap ck cs W2 (hv.below h h.size) hok.2.2 (hb.below h) hk hof hvb hvt)
  generalize hW0 : (w.alloc (Obj.cells #[.int .i64 t.kind, .string t.text, .int .i64 t.cols, .slice A t.kids.length cap] 24)).alloc (Obj.cells (boxC b.f (.slice Ak b.kids.length ck) (.slice As b.f.src.length cs)) 28) = W0
  have hz0 : W0.heap.size = w.heap.size + 1 + 1 := by rw [← hW0]; simp
  have hB0 : Below w.heap.size w W0 := by rw [← hW0]; exact bAl (bNew _ _) _
  have hb4 : MovBox W0 w.heap.size #[.int .i64 t.kind, .string t.text, .int .i64 t.cols, .slice A t.kids.length cap] := by
    rw [← hW0]
    exact (MovBox.new w _ _ _ rfl).below (bNew _ _) (by simp)
  have hb11 : MovBox W0 (w.heap.size + 1) (boxC b.f (.slice Ak b.kids.length ck) (.slice As b.f.src.length cs)) := by
    rw [← hW0]
    exact MovBox.new _ _ _ _ (by simp)
  have KB : Hid (∀ W, Below W0.heap.size W0 W → MovBox W w.heap.size #[.int .i64 t.kind, .string t.text, .int .i64 t.cols, .slice A t.kids.length cap] ∧ MovBox W (w.heap.size + 1) (boxC b.f (.slice Ak b.kids.length ck) (.slice As b.f.src.length cs)) ∧ Below w.heap.size w W) := fun W hW =>
    ⟨hb4.below hW (by omega), hb11.below hW (by omega), hB0.trans (hW.mono hB0.size)⟩
  have HW0 := hid hB0
  clear hv hok hb hp hvt hvb hpi hcnt hqx hr1 hr2 hr3 hrr hbd hpl hbt hkt hof hk hz0 hB0 hb4 hb11
  obtain ⟨tk, tx, tc, ts⟩ := t
  obtain ⟨f, ks⟩ := b
  obtain ⟨kind, name, size, bw, bh, bd, bx, by_, of_, src⟩ := f
  simp only [nodeV, boxV, boxC, Tree.kind, Tree.text, Tree.cols, Tree.kids, Bx.f, Bx.kids] at *
  obtain ⟨hm, hn, _⟩ := KB.out W0 (Below.refl _ _)
  have m0 := hm 0 _ rfl
  have m1 := hm 1 _ rfl
  have m2 := hm 2 _ rfl
  have m3 := hm 3 _ rfl
  have n0 := hn 0 _ rfl
  have n1 := hn 1 _ rfl
  have n2 := hn 2 _ rfl
  have n3 := hn 3 _ rfl
  have n4 := hn 4 _ rfl
  have n5 := hn 5 _ rfl
  have n6 := hn 6 _ rfl
  have n7 := hn 7 _ rfl
  have n8 := hn 8 _ rfl
  have n9 := hn 9 _ rfl
  have n10 := hn 10 _ rfl
  clear hm hn
  go_enter Tryz.func29, Tryz.ntmps29
  go_wp2_with fail
  refine (CN.out _ HW0.out).mono ?_
  rintro e w1 ⟨rfl, hb1⟩
  obtain ⟨hm, hn, hbw⟩ := KB.out w1 hb1
  have HT1 := hid hb1
  have HW1 := hid hbw
  clear hb1 hbw hW0
  clear m0 m1 m2 m3 n0 n1 n2 n3 n4 n5 n6 n7 n8 n9 n10
  have m0 := hm 0 _ rfl
  have m1 := hm 1 _ rfl
  have m2 := hm 2 _ rfl
  have m3 := hm 3 _ rfl
  have n0 := hn 0 _ rfl
  have n1 := hn 1 _ rfl
  have n2 := hn 2 _ rfl
  have n3 := hn 3 _ rfl
  have n4 := hn 4 _ rfl
  have n5 := hn 5 _ rfl
  have n6 := hn 6 _ rfl
  have n7 := hn 7 _ rfl
  have n8 := hn 8 _ rfl
  have n9 := hn 9 _ rfl
  have n10 := hn 10 _ rfl
  clear hm hn
  go_wp2_with fail
  refine (CB.out _ HW1.out).mono ?_
  rintro e w2 ⟨rfl, hb2⟩
  have HT2 := hid (bCl HT1.out hb2)
  clear hb2
  obtain ⟨hm, hn, hbw⟩ := KB.out w2 HT2.out
  have HW2 := hid hbw
  clear hbw
  clear m0 m1 m2 m3 n0 n1 n2 n3 n4 n5 n6 n7 n8 n9 n10
  have m0 := hm 0 _ rfl
  have m1 := hm 1 _ rfl
  have m2 := hm 2 _ rfl
  have m3 := hm 3 _ rfl
  have n0 := hn 0 _ rfl
  have n1 := hn 1 _ rfl
  have n2 := hn 2 _ rfl
  have n3 := hn 3 _ rfl
  have n4 := hn 4 _ rfl
  have n5 := hn 5 _ rfl
  have n6 := hn 6 _ rfl
  have n7 := hn 7 _ rfl
  have n8 := hn 8 _ rfl
  have n9 := hn 9 _ rfl
  have n10 := hn 10 _ rfl
  clear hm hn
  go_wp2_with fail
  refine (CP.out _ HW2.out).mono ?_
  rintro e w3 ⟨rfl, hb3⟩
  have HT3 := hid (bCl HT2.out hb3)
  clear hb3
  obtain ⟨hm, hn, hbw⟩ := KB.out w3 HT3.out
  have HW3 := hid hbw
  clear hbw
  clear m0 m1 m2 m3 n0 n1 n2 n3 n4 n5 n6 n7 n8 n9 n10
  have m0 := hm 0 _ rfl
  have m1 := hm 1 _ rfl
  have m2 := hm 2 _ rfl
  have m3 := hm 3 _ rfl
  have n0 := hn 0 _ rfl
  have n1 := hn 1 _ rfl
  have n2 := hn 2 _ rfl
  have n3 := hn 3 _ rfl
  have n4 := hn 4 _ rfl
  have n5 := hn 5 _ rfl
  have n6 := hn 6 _ rfl
  have n7 := hn 7 _ rfl
  have n8 := hn 8 _ rfl
  have n9 := hn 9 _ rfl
  have n10 := hn 10 _ rfl
  clear hm hn
  go_wp2_with fail
  refine (CM.out _ (bAl (bAl HW3.out _) _)).mono ?_
  rintro e w4 ⟨rfl, hb4⟩
  have HB4 := hid (bCl (bAl (bAl HW3.out _) _) hb4)
  clear hb4
  go_wp2_with fail
  go_ret2
  exact ⟨rfl, HB4.out⟩
end Go.Proofs.YtmahiejfniaahaaGreatDoor
