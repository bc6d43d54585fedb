/- arrow.Move up and down; at any argument. Written by wip/genmv2.py. -/
import Derived.Test.YtmahiejfniaahaaGreatDoorArrVv
import Derived.Test.YtmahiejfniaahaaGreatDoorVrtv
import Derived.Laws.EntriesVeiled
set_option linter.unusedVariables false
set_option linter.unusedSimpArgs false
set_option maxRecDepth 100000
namespace Go.Proofs.YtmahiejfniaahaaGreatDoor
open Go.RowKit
def moveR (t : Tree) (b : Bx) (p : List Int) (d : Int) : List Int × Int :=
  if (validS t && validB b) = false then ([], 1)
  else if (posIn t p && (decide (0 ≤ d) && decide (d ≤ 5))) = false then ([], 2)
  else if d = 4 then vertR t b p 1 else if d = 5 then vertR t b p (-1) else moveS t p d
set_option maxHeartbeats 4000000 in
theorem mup_any (tk : Int) (tx : ByteArray) (tc : Int) (tn cap : Nat) (A Ak As Ap : Option Addr) (kind size bw bh bd bx by_ of_ : Int) (name : ByteArray) (kn ck sn cs pn cp : Nat) (t : Tree) (b : Bx) (q : List Int) (px : Int) (w : World) (ht : tk = t.kind ∧ tx = t.text ∧ tc = t.cols ∧ tn = t.kids.length) (hbx : kind = b.f.kind ∧ name = b.f.name ∧ size = b.f.size ∧ bw = b.f.w ∧ bh = b.f.h ∧ bd = b.f.d ∧ bx = b.f.x ∧ by_ = b.f.y ∧ kn = b.kids.length ∧ of_ = b.f.of_ ∧ sn = b.f.src.length)
    (hpn : pn = q.length + 1) (hp : IntsR w (Lt w.heap.size) (q ++ [px]) (.slice Ap pn cp)) (hvv : (validS t && validB b) = true) (hpi : posIn t (q ++ [px]) = true)
    (HC : ∀ W, Below w.heap.size w W → Calls Tryz.prog 17 #[nodeV t A cap, boxV b Ak As ck cs] W (CarsRes W (carsR t b))) :
    Calls Tryz.prog 63 #[.agg #[.int .i64 tk, .string tx, .int .i64 tc, .slice A tn cap, .int .i64 kind, .string name, .int .i64 size, .int .i64 bw, .int .i64 bh, .int .i64 bd, .int .i64 bx, .int .i64 by_, .slice Ak kn ck, .int .i64 of_, .slice As sn cs, .slice Ap pn cp]] w (PosRes w (vertR t b (q ++ [px]) 1)) := by
  have hB0 : Below w.heap.size w (w.alloc (Obj.cells #[.int .i64 tk, .string tx, .int .i64 tc, .slice A tn cap, .int .i64 kind, .string name, .int .i64 size, .int .i64 bw, .int .i64 bh, .int .i64 bd, .int .i64 bx, .int .i64 by_, .slice Ak kn ck, .int .i64 of_, .slice As sn cs, .slice Ap pn cp] 100)) := bNew _ _
  have HB0 := hid hB0
  have HVV := hid (mvert_any tk tx tc tn cap A Ak As Ap kind size bw bh bd bx by_ of_ name kn ck sn cs pn cp t b q px 1 (w.alloc (Obj.cells #[.int .i64 tk, .string tx, .int .i64 tc, .slice A tn cap, .int .i64 kind, .string name, .int .i64 size, .int .i64 bw, .int .i64 bh, .int .i64 bd, .int .i64 bx, .int .i64 by_, .slice Ak kn ck, .int .i64 of_, .slice As sn cs, .slice Ap pn cp] 100)) ht hbx hpn (hp.below hB0 hB0.size) hvv hpi (by decide) (fun W hW => HC W (HB0.out.trans (hW.mono HB0.out.size))))
  generalize vertR t b (q ++ [px]) 1 = r at *
  clear ht hbx hpn hp hvv hpi HC hB0
  go_enter Tryz.func63, Tryz.ntmps63
  go_wp2_with fail
  refine HVV.out.mono ?_
  rintro e w1 ⟨hb1, v1, rfl, hi1⟩
  obtain ⟨A1, c1, rfl⟩ := hi1.form
  have HB1 := hid (HB0.out.trans (hb1.mono HB0.out.size))
  have HI1 := hid hi1
  clear hb1 hi1
  go_wp2_with fail
  go_ret2
  exact ⟨HB1.out, _, rfl, HI1.out.keep (fun _ _ => rfl) (fun k hk => ⟨Nat.le_trans HB0.out.size hk.1, hk.2⟩)⟩
set_option maxHeartbeats 4000000 in
theorem mdown_any (tk : Int) (tx : ByteArray) (tc : Int) (tn cap : Nat) (A Ak As Ap : Option Addr) (kind size bw bh bd bx by_ of_ : Int) (name : ByteArray) (kn ck sn cs pn cp : Nat) (t : Tree) (b : Bx) (q : List Int) (px : Int) (w : World) (ht : tk = t.kind ∧ tx = t.text ∧ tc = t.cols ∧ tn = t.kids.length) (hbx : kind = b.f.kind ∧ name = b.f.name ∧ size = b.f.size ∧ bw = b.f.w ∧ bh = b.f.h ∧ bd = b.f.d ∧ bx = b.f.x ∧ by_ = b.f.y ∧ kn = b.kids.length ∧ of_ = b.f.of_ ∧ sn = b.f.src.length)
    (hpn : pn = q.length + 1) (hp : IntsR w (Lt w.heap.size) (q ++ [px]) (.slice Ap pn cp)) (hvv : (validS t && validB b) = true) (hpi : posIn t (q ++ [px]) = true)
    (HC : ∀ W, Below w.heap.size w W → Calls Tryz.prog 17 #[nodeV t A cap, boxV b Ak As ck cs] W (CarsRes W (carsR t b))) :
    Calls Tryz.prog 64 #[.agg #[.int .i64 tk, .string tx, .int .i64 tc, .slice A tn cap, .int .i64 kind, .string name, .int .i64 size, .int .i64 bw, .int .i64 bh, .int .i64 bd, .int .i64 bx, .int .i64 by_, .slice Ak kn ck, .int .i64 of_, .slice As sn cs, .slice Ap pn cp]] w (PosRes w (vertR t b (q ++ [px]) (-1))) := by
  have hB0 : Below w.heap.size w (w.alloc (Obj.cells #[.int .i64 tk, .string tx, .int .i64 tc, .slice A tn cap, .int .i64 kind, .string name, .int .i64 size, .int .i64 bw, .int .i64 bh, .int .i64 bd, .int .i64 bx, .int .i64 by_, .slice Ak kn ck, .int .i64 of_, .slice As sn cs, .slice Ap pn cp] 100)) := bNew _ _
  have HB0 := hid hB0
  have HVV := hid (mvert_any tk tx tc tn cap A Ak As Ap kind size bw bh bd bx by_ of_ name kn ck sn cs pn cp t b q px (-1) (w.alloc (Obj.cells #[.int .i64 tk, .string tx, .int .i64 tc, .slice A tn cap, .int .i64 kind, .string name, .int .i64 size, .int .i64 bw, .int .i64 bh, .int .i64 bd, .int .i64 bx, .int .i64 by_, .slice Ak kn ck, .int .i64 of_, .slice As sn cs, .slice Ap pn cp] 100)) ht hbx hpn (hp.below hB0 hB0.size) hvv hpi (by decide) (fun W hW => HC W (HB0.out.trans (hW.mono HB0.out.size))))
  generalize vertR t b (q ++ [px]) (-1) = r at *
  clear ht hbx hpn hp hvv hpi HC hB0
  go_enter Tryz.func64, Tryz.ntmps64
  go_wp2_with fail
  refine HVV.out.mono ?_
  rintro e w1 ⟨hb1, v1, rfl, hi1⟩
  obtain ⟨A1, c1, rfl⟩ := hi1.form
  have HB1 := hid (HB0.out.trans (hb1.mono HB0.out.size))
  have HI1 := hid hi1
  clear hb1 hi1
  go_wp2_with fail
  go_ret2
  exact ⟨HB1.out, _, rfl, HI1.out.keep (fun _ _ => rfl) (fun k hk => ⟨Nat.le_trans HB0.out.size hk.1, hk.2⟩)⟩
set_option maxHeartbeats 4000000 in
theorem movev4_any (t : Tree) (b : Bx) (p : List Int) (A Ak As Ap : Option Addr) (cap ck cs cp : Nat) (w : World) (hv : SliceR treeE w (Lt w.heap.size) t.kids (.slice A t.kids.length cap)) (hok : NodeOk t) (hb : BoxIn w b Ak As ck cs) (hp : IntsR w (Lt w.heap.size) p (.slice Ap p.length cp)) (hvt : validS t = true) (hvb : validB b = true) (hpi : posIn t p = true) (htab : TabOk w) :
    Calls Tryz.prog 29 #[nodeV t A cap, boxV b Ak As ck cs, .slice Ap p.length cp, .int .i64 4] w (PosRes w (vertR t b p 1)) := by
  have hcnt := valid_count hvt
  obtain ⟨q, x, hqx⟩ := posIn_ne hpi
  obtain ⟨t', hr1, hr2, hr3⟩ := posIn_row t q x (by rw [← hqx]; exact hpi)
  have hrr := rowRes_rowS hvt hr1
  have hbd := posIn_bd t p hpi
  have hpl : p.length = q.length + 1 := by rw [hqx]; simp
  have hbt : countS t' ≤ countS t := (rowS_ok (w := w) (S := Lt w.heap.size) t q t' hr1 hok ⟨_, hv⟩).2
  have hkt : t'.kids.length ≤ countS t' := kids_cnt t'
  have CN : Hid (∀ W, Below w.heap.size w W → Calls Tryz.prog 57 #[nodeV t A cap] W fun e w' => e = .returned (.bool true) ∧ Below W.heap.size W w') := fun W hW => by
    have h := nValid_any t A cap W (hv.below hW hW.size) hok.2.2
    rw [hvt] at h
    exact h
  have CB : Hid (∀ W, Below w.heap.size w W → Calls Tryz.prog 58 #[boxV b Ak As ck cs] W fun e w' => e = .returned (.bool true) ∧ Below W.heap.size W w') := fun W hW => by
    have h := bValid_any b Ak As ck cs W hb.ok (hb.below hW).src (hb.below hW).kids
    rw [hvb] at h
    exact h
  have CP : Hid (∀ W, Below w.heap.size w W → Calls Tryz.prog 38 #[nodeV t A cap, .slice Ap p.length cp] W fun e w' => e = .returned (.bool true) ∧ Below W.heap.size W w') := fun W hW => by
    have h := posValid_any t p A cap (.slice Ap p.length cp) W (hv.below hW hW.size) hok.2.2 (hp.below hW hW.size)
    rw [hvt, hpi] at h
    exact h
  have CM : Hid (∀ W, Below w.heap.size w W → Calls Tryz.prog 63 #[.agg #[.int .i64 t.kind, .string t.text, .int .i64 t.cols, .slice A t.kids.length cap, .int .i64 b.f.kind, .string b.f.name, .int .i64 b.f.size, .int .i64 b.f.w, .int .i64 b.f.h, .int .i64 b.f.d, .int .i64 b.f.x, .int .i64 b.f.y, .slice Ak b.kids.length ck, .int .i64 b.f.of_, .slice As b.f.src.length cs, .slice Ap p.length cp]] W (PosRes W (vertR t b p 1))) := fun W hW => by
    have hp2 := hp.below hW hW.size
    have h := mup_any t.kind t.text t.cols t.kids.length cap A Ak As Ap b.f.kind b.f.size b.f.w b.f.h b.f.d b.f.x b.f.y b.f.of_ b.f.name b.kids.length ck b.f.src.length cs p.length cp t b q x W ⟨rfl, rfl, rfl, rfl⟩ ⟨rfl, rfl, rfl, rfl, rfl, rfl, rfl, rfl, rfl, rfl, rfl⟩ hpl (by rw [← hqx]; exact hp2) (two_true hvt hvb) (by rw [← hqx]; exact hpi) (fun W2 hW2 => by
      have h := hW.trans (hW2.mono hW.size)
      exact call_any t b A Ak As cap ck cs W2 (hv.below h h.size) hok.2.2 (hb.below h) (htab.below h))
    rw [← hqx] at h
    exact h
  generalize hW0 : (w.alloc (Obj.cells #[.int .i64 t.kind, .string t.text, .int .i64 t.cols, .slice A t.kids.length cap] 24)).alloc (Obj.cells (boxC b.f (.slice Ak b.kids.length ck) (.slice As b.f.src.length cs)) 28) = W0
  have hz0 : W0.heap.size = w.heap.size + 1 + 1 := by rw [← hW0]; simp
  have hB0 : Below w.heap.size w W0 := by rw [← hW0]; exact bAl (bNew _ _) _
  have hb4 : MovBox W0 w.heap.size #[.int .i64 t.kind, .string t.text, .int .i64 t.cols, .slice A t.kids.length cap] := by
    rw [← hW0]
    exact (MovBox.new w _ _ _ rfl).below (bNew _ _) (by simp)
  have hb11 : MovBox W0 (w.heap.size + 1) (boxC b.f (.slice Ak b.kids.length ck) (.slice As b.f.src.length cs)) := by
    rw [← hW0]
    exact MovBox.new _ _ _ _ (by simp)
  have KB : Hid (∀ W, Below W0.heap.size W0 W → MovBox W w.heap.size #[.int .i64 t.kind, .string t.text, .int .i64 t.cols, .slice A t.kids.length cap] ∧ MovBox W (w.heap.size + 1) (boxC b.f (.slice Ak b.kids.length ck) (.slice As b.f.src.length cs)) ∧ Below w.heap.size w W) := fun W hW =>
    ⟨hb4.below hW (by omega), hb11.below hW (by omega), hB0.trans (hW.mono hB0.size)⟩
  have HW0 := hid hB0
  generalize vertR t b p 1 = R at *
  clear hv hok hb hp hvt hvb hpi hcnt hqx hr1 hr2 hr3 hrr hbd hpl hbt hkt htab hz0 hB0 hb4 hb11
  obtain ⟨tk, tx, tc, ts⟩ := t
  obtain ⟨f, ks⟩ := b
  obtain ⟨kind, name, size, bw, bh, bd, bx, by_, of_, src⟩ := f
  simp only [nodeV, boxV, boxC, Tree.kind, Tree.text, Tree.cols, Tree.kids, Bx.f, Bx.kids] at *
  obtain ⟨hm, hn, _⟩ := KB.out W0 (Below.refl _ _)
  have m0 := hm 0 _ rfl
  have m1 := hm 1 _ rfl
  have m2 := hm 2 _ rfl
  have m3 := hm 3 _ rfl
  have n0 := hn 0 _ rfl
  have n1 := hn 1 _ rfl
  have n2 := hn 2 _ rfl
  have n3 := hn 3 _ rfl
  have n4 := hn 4 _ rfl
  have n5 := hn 5 _ rfl
  have n6 := hn 6 _ rfl
  have n7 := hn 7 _ rfl
  have n8 := hn 8 _ rfl
  have n9 := hn 9 _ rfl
  have n10 := hn 10 _ rfl
  clear hm hn
  go_enter Tryz.func29, Tryz.ntmps29
  go_wp2_with fail
  refine (CN.out _ HW0.out).mono ?_
  rintro e w1 ⟨rfl, hb1⟩
  obtain ⟨hm, hn, hbw⟩ := KB.out w1 hb1
  have HT1 := hid hb1
  have HW1 := hid hbw
  clear hb1 hbw hW0
  clear m0 m1 m2 m3 n0 n1 n2 n3 n4 n5 n6 n7 n8 n9 n10
  have m0 := hm 0 _ rfl
  have m1 := hm 1 _ rfl
  have m2 := hm 2 _ rfl
  have m3 := hm 3 _ rfl
  have n0 := hn 0 _ rfl
  have n1 := hn 1 _ rfl
  have n2 := hn 2 _ rfl
  have n3 := hn 3 _ rfl
  have n4 := hn 4 _ rfl
  have n5 := hn 5 _ rfl
  have n6 := hn 6 _ rfl
  have n7 := hn 7 _ rfl
  have n8 := hn 8 _ rfl
  have n9 := hn 9 _ rfl
  have n10 := hn 10 _ rfl
  clear hm hn
  go_wp2_with fail
  refine (CB.out _ HW1.out).mono ?_
  rintro e w2 ⟨rfl, hb2⟩
  have HT2 := hid (bCl HT1.out hb2)
  clear hb2
  obtain ⟨hm, hn, hbw⟩ := KB.out w2 HT2.out
  have HW2 := hid hbw
  clear hbw
  clear m0 m1 m2 m3 n0 n1 n2 n3 n4 n5 n6 n7 n8 n9 n10
  have m0 := hm 0 _ rfl
  have m1 := hm 1 _ rfl
  have m2 := hm 2 _ rfl
  have m3 := hm 3 _ rfl
  have n0 := hn 0 _ rfl
  have n1 := hn 1 _ rfl
  have n2 := hn 2 _ rfl
  have n3 := hn 3 _ rfl
  have n4 := hn 4 _ rfl
  have n5 := hn 5 _ rfl
  have n6 := hn 6 _ rfl
  have n7 := hn 7 _ rfl
  have n8 := hn 8 _ rfl
  have n9 := hn 9 _ rfl
  have n10 := hn 10 _ rfl
  clear hm hn
  go_wp2_with fail
  refine (CP.out _ HW2.out).mono ?_
  rintro e w3 ⟨rfl, hb3⟩
  have HT3 := hid (bCl HT2.out hb3)
  clear hb3
  obtain ⟨hm, hn, hbw⟩ := KB.out w3 HT3.out
  have HW3 := hid hbw
  clear hbw
  clear m0 m1 m2 m3 n0 n1 n2 n3 n4 n5 n6 n7 n8 n9 n10
  have m0 := hm 0 _ rfl
  have m1 := hm 1 _ rfl
  have m2 := hm 2 _ rfl
  have m3 := hm 3 _ rfl
  have n0 := hn 0 _ rfl
  have n1 := hn 1 _ rfl
  have n2 := hn 2 _ rfl
  have n3 := hn 3 _ rfl
  have n4 := hn 4 _ rfl
  have n5 := hn 5 _ rfl
  have n6 := hn 6 _ rfl
  have n7 := hn 7 _ rfl
  have n8 := hn 8 _ rfl
  have n9 := hn 9 _ rfl
  have n10 := hn 10 _ rfl
  clear hm hn
  go_wp2_with fail
  refine (CM.out _ (bAl (bAl HW3.out _) _)).mono ?_
  rintro e w4 ⟨hb4, v4, rfl, hi4⟩
  obtain ⟨A4, c4, rfl⟩ := hi4.form
  have HB4 := hid (bCl (bAl (bAl HW3.out _) _) hb4)
  have HI4 := hid hi4
  have HS := hid (bAl (bAl HW3.out (Obj.cells #[] 0)) (Obj.cells #[] 0)).size
  clear hb4 hi4
  go_wp2_with fail
  go_ret2
  exact ⟨HB4.out, _, rfl, HI4.out.keep (fun _ _ => rfl) (fun k hk => ⟨by have := HS.out; simp at this; have := hk.1; simp at this; omega, hk.2⟩)⟩
set_option maxHeartbeats 4000000 in
theorem movev5_any (t : Tree) (b : Bx) (p : List Int) (A Ak As Ap : Option Addr) (cap ck cs cp : Nat) (w : World) (hv : SliceR treeE w (Lt w.heap.size) t.kids (.slice A t.kids.length cap)) (hok : NodeOk t) (hb : BoxIn w b Ak As ck cs) (hp : IntsR w (Lt w.heap.size) p (.slice Ap p.length cp)) (hvt : validS t = true) (hvb : validB b = true) (hpi : posIn t p = true) (htab : TabOk w) :
    Calls Tryz.prog 29 #[nodeV t A cap, boxV b Ak As ck cs, .slice Ap p.length cp, .int .i64 5] w (PosRes w (vertR t b p (-1))) := by
  have hcnt := valid_count hvt
  obtain ⟨q, x, hqx⟩ := posIn_ne hpi
  obtain ⟨t', hr1, hr2, hr3⟩ := posIn_row t q x (by rw [← hqx]; exact hpi)
  have hrr := rowRes_rowS hvt hr1
  have hbd := posIn_bd t p hpi
  have hpl : p.length = q.length + 1 := by rw [hqx]; simp
  have hbt : countS t' ≤ countS t := (rowS_ok (w := w) (S := Lt w.heap.size) t q t' hr1 hok ⟨_, hv⟩).2
  have hkt : t'.kids.length ≤ countS t' := kids_cnt t'
  have CN : Hid (∀ W, Below w.heap.size w W → Calls Tryz.prog 57 #[nodeV t A cap] W fun e w' => e = .returned (.bool true) ∧ Below W.heap.size W w') := fun W hW => by
    have h := nValid_any t A cap W (hv.below hW hW.size) hok.2.2
    rw [hvt] at h
    exact h
  have CB : Hid (∀ W, Below w.heap.size w W → Calls Tryz.prog 58 #[boxV b Ak As ck cs] W fun e w' => e = .returned (.bool true) ∧ Below W.heap.size W w') := fun W hW => by
    have h := bValid_any b Ak As ck cs W hb.ok (hb.below hW).src (hb.below hW).kids
    rw [hvb] at h
    exact h
  have CP : Hid (∀ W, Below w.heap.size w W → Calls Tryz.prog 38 #[nodeV t A cap, .slice Ap p.length cp] W fun e w' => e = .returned (.bool true) ∧ Below W.heap.size W w') := fun W hW => by
    have h := posValid_any t p A cap (.slice Ap p.length cp) W (hv.below hW hW.size) hok.2.2 (hp.below hW hW.size)
    rw [hvt, hpi] at h
    exact h
  have CM : Hid (∀ W, Below w.heap.size w W → Calls Tryz.prog 64 #[.agg #[.int .i64 t.kind, .string t.text, .int .i64 t.cols, .slice A t.kids.length cap, .int .i64 b.f.kind, .string b.f.name, .int .i64 b.f.size, .int .i64 b.f.w, .int .i64 b.f.h, .int .i64 b.f.d, .int .i64 b.f.x, .int .i64 b.f.y, .slice Ak b.kids.length ck, .int .i64 b.f.of_, .slice As b.f.src.length cs, .slice Ap p.length cp]] W (PosRes W (vertR t b p (-1)))) := fun W hW => by
    have hp2 := hp.below hW hW.size
    have h := mdown_any t.kind t.text t.cols t.kids.length cap A Ak As Ap b.f.kind b.f.size b.f.w b.f.h b.f.d b.f.x b.f.y b.f.of_ b.f.name b.kids.length ck b.f.src.length cs p.length cp t b q x W ⟨rfl, rfl, rfl, rfl⟩ ⟨rfl, rfl, rfl, rfl, rfl, rfl, rfl, rfl, rfl, rfl, rfl⟩ hpl (by rw [← hqx]; exact hp2) (two_true hvt hvb) (by rw [← hqx]; exact hpi) (fun W2 hW2 => by
      have h := hW.trans (hW2.mono hW.size)
      exact call_any t b A Ak As cap ck cs W2 (hv.below h h.size) hok.2.2 (hb.below h) (htab.below h))
    rw [← hqx] at h
    exact h
  generalize hW0 : (w.alloc (Obj.cells #[.int .i64 t.kind, .string t.text, .int .i64 t.cols, .slice A t.kids.length cap] 24)).alloc (Obj.cells (boxC b.f (.slice Ak b.kids.length ck) (.slice As b.f.src.length cs)) 28) = W0
  have hz0 : W0.heap.size = w.heap.size + 1 + 1 := by rw [← hW0]; simp
  have hB0 : Below w.heap.size w W0 := by rw [← hW0]; exact bAl (bNew _ _) _
  have hb4 : MovBox W0 w.heap.size #[.int .i64 t.kind, .string t.text, .int .i64 t.cols, .slice A t.kids.length cap] := by
    rw [← hW0]
    exact (MovBox.new w _ _ _ rfl).below (bNew _ _) (by simp)
  have hb11 : MovBox W0 (w.heap.size + 1) (boxC b.f (.slice Ak b.kids.length ck) (.slice As b.f.src.length cs)) := by
    rw [← hW0]
    exact MovBox.new _ _ _ _ (by simp)
  have KB : Hid (∀ W, Below W0.heap.size W0 W → MovBox W w.heap.size #[.int .i64 t.kind, .string t.text, .int .i64 t.cols, .slice A t.kids.length cap] ∧ MovBox W (w.heap.size + 1) (boxC b.f (.slice Ak b.kids.length ck) (.slice As b.f.src.length cs)) ∧ Below w.heap.size w W) := fun W hW =>
    ⟨hb4.below hW (by omega), hb11.below hW (by omega), hB0.trans (hW.mono hB0.size)⟩
  have HW0 := hid hB0
  generalize vertR t b p (-1) = R at *
  clear hv hok hb hp hvt hvb hpi hcnt hqx hr1 hr2 hr3 hrr hbd hpl hbt hkt htab hz0 hB0 hb4 hb11
  obtain ⟨tk, tx, tc, ts⟩ := t
  obtain ⟨f, ks⟩ := b
  obtain ⟨kind, name, size, bw, bh, bd, bx, by_, of_, src⟩ := f
  simp only [nodeV, boxV, boxC, Tree.kind, Tree.text, Tree.cols, Tree.kids, Bx.f, Bx.kids] at *
  obtain ⟨hm, hn, _⟩ := KB.out W0 (Below.refl _ _)
  have m0 := hm 0 _ rfl
  have m1 := hm 1 _ rfl
  have m2 := hm 2 _ rfl
  have m3 := hm 3 _ rfl
  have n0 := hn 0 _ rfl
  have n1 := hn 1 _ rfl
  have n2 := hn 2 _ rfl
  have n3 := hn 3 _ rfl
  have n4 := hn 4 _ rfl
  have n5 := hn 5 _ rfl
  have n6 := hn 6 _ rfl
  have n7 := hn 7 _ rfl
  have n8 := hn 8 _ rfl
  have n9 := hn 9 _ rfl
  have n10 := hn 10 _ rfl
  clear hm hn
  go_enter Tryz.func29, Tryz.ntmps29
  go_wp2_with fail
  refine (CN.out _ HW0.out).mono ?_
  rintro e w1 ⟨rfl, hb1⟩
  obtain ⟨hm, hn, hbw⟩ := KB.out w1 hb1
  have HT1 := hid hb1
  have HW1 := hid hbw
  clear hb1 hbw hW0
  clear m0 m1 m2 m3 n0 n1 n2 n3 n4 n5 n6 n7 n8 n9 n10
  have m0 := hm 0 _ rfl
  have m1 := hm 1 _ rfl
  have m2 := hm 2 _ rfl
  have m3 := hm 3 _ rfl
  have n0 := hn 0 _ rfl
  have n1 := hn 1 _ rfl
  have n2 := hn 2 _ rfl
  have n3 := hn 3 _ rfl
  have n4 := hn 4 _ rfl
  have n5 := hn 5 _ rfl
  have n6 := hn 6 _ rfl
  have n7 := hn 7 _ rfl
  have n8 := hn 8 _ rfl
  have n9 := hn 9 _ rfl
  have n10 := hn 10 _ rfl
  clear hm hn
  go_wp2_with fail
  refine (CB.out _ HW1.out).mono ?_
  rintro e w2 ⟨rfl, hb2⟩
  have HT2 := hid (bCl HT1.out hb2)
  clear hb2
  obtain ⟨hm, hn, hbw⟩ := KB.out w2 HT2.out
  have HW2 := hid hbw
  clear hbw
  clear m0 m1 m2 m3 n0 n1 n2 n3 n4 n5 n6 n7 n8 n9 n10
  have m0 := hm 0 _ rfl
  have m1 := hm 1 _ rfl
  have m2 := hm 2 _ rfl
  have m3 := hm 3 _ rfl
  have n0 := hn 0 _ rfl
  have n1 := hn 1 _ rfl
  have n2 := hn 2 _ rfl
  have n3 := hn 3 _ rfl
  have n4 := hn 4 _ rfl
  have n5 := hn 5 _ rfl
  have n6 := hn 6 _ rfl
  have n7 := hn 7 _ rfl
  have n8 := hn 8 _ rfl
  have n9 := hn 9 _ rfl
  have n10 := hn 10 _ rfl
  clear hm hn
  go_wp2_with fail
  refine (CP.out _ HW2.out).mono ?_
  rintro e w3 ⟨rfl, hb3⟩
  have HT3 := hid (bCl HT2.out hb3)
  clear hb3
  obtain ⟨hm, hn, hbw⟩ := KB.out w3 HT3.out
  have HW3 := hid hbw
  clear hbw
  clear m0 m1 m2 m3 n0 n1 n2 n3 n4 n5 n6 n7 n8 n9 n10
  have m0 := hm 0 _ rfl
  have m1 := hm 1 _ rfl
  have m2 := hm 2 _ rfl
  have m3 := hm 3 _ rfl
  have n0 := hn 0 _ rfl
  have n1 := hn 1 _ rfl
  have n2 := hn 2 _ rfl
  have n3 := hn 3 _ rfl
  have n4 := hn 4 _ rfl
  have n5 := hn 5 _ rfl
  have n6 := hn 6 _ rfl
  have n7 := hn 7 _ rfl
  have n8 := hn 8 _ rfl
  have n9 := hn 9 _ rfl
  have n10 := hn 10 _ rfl
  clear hm hn
  go_wp2_with fail
  refine (CM.out _ (bAl (bAl HW3.out _) _)).mono ?_
  rintro e w4 ⟨hb4, v4, rfl, hi4⟩
  obtain ⟨A4, c4, rfl⟩ := hi4.form
  have HB4 := hid (bCl (bAl (bAl HW3.out _) _) hb4)
  have HI4 := hid hi4
  have HS := hid (bAl (bAl HW3.out (Obj.cells #[] 0)) (Obj.cells #[] 0)).size
  clear hb4 hi4
  go_wp2_with fail
  go_ret2
  exact ⟨HB4.out, _, rfl, HI4.out.keep (fun _ _ => rfl) (fun k hk => ⟨by have := HS.out; simp at this; have := hk.1; simp at this; omega, hk.2⟩)⟩
set_option maxHeartbeats 4000000 in
theorem move_any (t : Tree) (b : Bx) (p : List Int) (d : Int) (A Ak As Ap : Option Addr) (cap ck cs cp : Nat) (w : World) (hv : SliceR treeE w (Lt w.heap.size) t.kids (.slice A t.kids.length cap)) (hok : NodeOk t) (hb : BoxIn w b Ak As ck cs) (hp : IntsR w (Lt w.heap.size) p (.slice Ap p.length cp)) (htab : TabOk w) :
    Calls Tryz.prog 29 #[nodeV t A cap, boxV b Ak As ck cs, .slice Ap p.length cp, .int .i64 d] w (PosRes w (moveR t b p d)) := by
  have CN : Hid (∀ W, Below w.heap.size w W → Calls Tryz.prog 57 #[nodeV t A cap] W fun e w' => e = .returned (.bool (validS t)) ∧ Below W.heap.size W w') := fun W hW => nValid_any t A cap W (hv.below hW hW.size) hok.2.2
  have CB : Hid (∀ W, Below w.heap.size w W → Calls Tryz.prog 58 #[boxV b Ak As ck cs] W fun e w' => e = .returned (.bool (validB b)) ∧ Below W.heap.size W w') := fun W hW => bValid_any b Ak As ck cs W hb.ok (hb.below hW).src (hb.below hW).kids
  have CP : Hid (∀ W, Below w.heap.size w W → Calls Tryz.prog 38 #[nodeV t A cap, .slice Ap p.length cp] W fun e w' => e = .returned (.bool (validS t && posIn t p)) ∧ Below W.heap.size W w') := fun W hW => posValid_any t p A cap (.slice Ap p.length cp) W (hv.below hW hW.size) hok.2.2 (hp.below hW hW.size)
  have HR1 : Hid ((validS t && validB b) = false → moveR t b p d = ([], 1)) := fun h => by rw [moveR, if_pos h]
  have HR2 : Hid ((validS t && validB b) = true → (posIn t p && (decide (0 ≤ d) && decide (d ≤ 5))) = false → moveR t b p d = ([], 2)) := fun h h2 => by rw [moveR, if_neg (by simp [h]), if_pos h2]
  by_cases hgood : validS t = true ∧ validB b = true ∧ posIn t p = true ∧ 0 ≤ d ∧ d ≤ 5
  · obtain ⟨h1, h2, h3, h4, h5⟩ := hgood
    have hR : moveR t b p d = if d = 4 then vertR t b p 1 else if d = 5 then vertR t b p (-1) else moveS t p d := by
      rw [moveR, if_neg (by simp [h1, h2]), if_neg (by simp [h3, h4, h5])]
    rw [hR]
    clear hR HR1 HR2 CN CB CP
    have hd : d = 0 ∨ d = 1 ∨ d = 2 ∨ d = 3 ∨ d = 4 ∨ d = 5 := by omega
    rcases hd with rfl | rfl | rfl | rfl | rfl | rfl
    · exact move0_any t b p A Ak As Ap cap ck cs cp w hv hok hb hp h1 h2 h3
    · exact move1_any t b p A Ak As Ap cap ck cs cp w hv hok hb hp h1 h2 h3
    · exact move2_any t b p A Ak As Ap cap ck cs cp w hv hok hb hp h1 h2 h3
    · exact move3_any t b p A Ak As Ap cap ck cs cp w hv hok hb hp h1 h2 h3
    · exact movev4_any t b p A Ak As Ap cap ck cs cp w hv hok hb hp h1 h2 h3 htab
    · exact movev5_any t b p A Ak As Ap cap ck cs cp w hv hok hb hp h1 h2 h3 htab
  generalize hW0 : (w.alloc (Obj.cells #[.int .i64 t.kind, .string t.text, .int .i64 t.cols, .slice A t.kids.length cap] 24)).alloc (Obj.cells (boxC b.f (.slice Ak b.kids.length ck) (.slice As b.f.src.length cs)) 28) = W0
  have hz0 : W0.heap.size = w.heap.size + 1 + 1 := by rw [← hW0]; simp
  have hB0 : Below w.heap.size w W0 := by rw [← hW0]; exact bAl (bNew _ _) _
  have hb4 : MovBox W0 w.heap.size #[.int .i64 t.kind, .string t.text, .int .i64 t.cols, .slice A t.kids.length cap] := by
    rw [← hW0]
    exact (MovBox.new w _ _ _ rfl).below (bNew _ _) (by simp)
  have hb11 : MovBox W0 (w.heap.size + 1) (boxC b.f (.slice Ak b.kids.length ck) (.slice As b.f.src.length cs)) := by
    rw [← hW0]
    exact MovBox.new _ _ _ _ (by simp)
  have KB : Hid (∀ W, Below W0.heap.size W0 W → MovBox W w.heap.size #[.int .i64 t.kind, .string t.text, .int .i64 t.cols, .slice A t.kids.length cap] ∧ MovBox W (w.heap.size + 1) (boxC b.f (.slice Ak b.kids.length ck) (.slice As b.f.src.length cs)) ∧ Below w.heap.size w W) := fun W hW =>
    ⟨hb4.below hW (by omega), hb11.below hW (by omega), hB0.trans (hW.mono hB0.size)⟩
  generalize moveR t b p d = r at *
  clear hv hok hb hp htab hz0 hB0 hb4 hb11
  cases hvt : validS t with
  | false =>
    have HR : Hid (r = ([], 1)) := HR1.out (by rw [hvt]; rfl)
    rw [hvt] at CN
    clear HR1 HR2 hvt hgood CB CP
    obtain ⟨hm, hn, hbw⟩ := KB.out W0 (Below.refl _ _)
    have m0 := hm 0 _ rfl
    have m1 := hm 1 _ rfl
    have m2 := hm 2 _ rfl
    have m3 := hm 3 _ rfl
    have n0 := hn 0 _ rfl
    have n1 := hn 1 _ rfl
    have n2 := hn 2 _ rfl
    have n3 := hn 3 _ rfl
    have n4 := hn 4 _ rfl
    have n5 := hn 5 _ rfl
    have n6 := hn 6 _ rfl
    have n7 := hn 7 _ rfl
    have n8 := hn 8 _ rfl
    have n9 := hn 9 _ rfl
    have n10 := hn 10 _ rfl
    have HW_W0 := hid hbw
    clear hm hn hbw
    go_enter Tryz.func29, Tryz.ntmps29
    go_wp2_with fail
    refine (CN.out _ HW_W0.out).mono ?_
    rintro e w1 ⟨rfl, hb1⟩
    have HT1 := hid hb1
    clear hb1 hW0
    clear m0 m1 m2 m3 n0 n1 n2 n3 n4 n5 n6 n7 n8 n9 n10
    obtain ⟨hm, hn, hbw⟩ := KB.out w1 HT1.out
    have m0 := hm 0 _ rfl
    have m1 := hm 1 _ rfl
    have m2 := hm 2 _ rfl
    have m3 := hm 3 _ rfl
    have n0 := hn 0 _ rfl
    have n1 := hn 1 _ rfl
    have n2 := hn 2 _ rfl
    have n3 := hn 3 _ rfl
    have n4 := hn 4 _ rfl
    have n5 := hn 5 _ rfl
    have n6 := hn 6 _ rfl
    have n7 := hn 7 _ rfl
    have n8 := hn 8 _ rfl
    have n9 := hn 9 _ rfl
    have n10 := hn 10 _ rfl
    have HW_w1 := hid hbw
    clear hm hn hbw
    go_wp2_with fail
    go_ret2
    exact ⟨HW_w1.out, .slice none 0 0, by rw [HR.out]; rfl, by rw [HR.out]; exact SliceR.nil_ 0 (Nat.zero_le _) none⟩
  | true =>
    cases hvb : validB b with
    | false =>
      have HR : Hid (r = ([], 1)) := HR1.out (by rw [hvb, hvt]; rfl)
      rw [hvt] at CN
      rw [hvb] at CB
      clear HR1 HR2 hvt hvb hgood CP
      obtain ⟨hm, hn, hbw⟩ := KB.out W0 (Below.refl _ _)
      have m0 := hm 0 _ rfl
      have m1 := hm 1 _ rfl
      have m2 := hm 2 _ rfl
      have m3 := hm 3 _ rfl
      have n0 := hn 0 _ rfl
      have n1 := hn 1 _ rfl
      have n2 := hn 2 _ rfl
      have n3 := hn 3 _ rfl
      have n4 := hn 4 _ rfl
      have n5 := hn 5 _ rfl
      have n6 := hn 6 _ rfl
      have n7 := hn 7 _ rfl
      have n8 := hn 8 _ rfl
      have n9 := hn 9 _ rfl
      have n10 := hn 10 _ rfl
      have HW_W0 := hid hbw
      clear hm hn hbw
      go_enter Tryz.func29, Tryz.ntmps29
      go_wp2_with fail
      refine (CN.out _ HW_W0.out).mono ?_
      rintro e w1 ⟨rfl, hb1⟩
      have HT1 := hid hb1
      clear hb1 hW0
      clear m0 m1 m2 m3 n0 n1 n2 n3 n4 n5 n6 n7 n8 n9 n10
      obtain ⟨hm, hn, hbw⟩ := KB.out w1 HT1.out
      have m0 := hm 0 _ rfl
      have m1 := hm 1 _ rfl
      have m2 := hm 2 _ rfl
      have m3 := hm 3 _ rfl
      have n0 := hn 0 _ rfl
      have n1 := hn 1 _ rfl
      have n2 := hn 2 _ rfl
      have n3 := hn 3 _ rfl
      have n4 := hn 4 _ rfl
      have n5 := hn 5 _ rfl
      have n6 := hn 6 _ rfl
      have n7 := hn 7 _ rfl
      have n8 := hn 8 _ rfl
      have n9 := hn 9 _ rfl
      have n10 := hn 10 _ rfl
      have HW_w1 := hid hbw
      clear hm hn hbw
      go_wp2_with fail
      refine (CB.out _ HW_w1.out).mono ?_
      rintro e w2 ⟨rfl, hb2⟩
      have HT2 := hid (bCl HT1.out hb2)
      clear hb2
      clear m0 m1 m2 m3 n0 n1 n2 n3 n4 n5 n6 n7 n8 n9 n10
      obtain ⟨hm, hn, hbw⟩ := KB.out w2 HT2.out
      have m0 := hm 0 _ rfl
      have m1 := hm 1 _ rfl
      have m2 := hm 2 _ rfl
      have m3 := hm 3 _ rfl
      have n0 := hn 0 _ rfl
      have n1 := hn 1 _ rfl
      have n2 := hn 2 _ rfl
      have n3 := hn 3 _ rfl
      have n4 := hn 4 _ rfl
      have n5 := hn 5 _ rfl
      have n6 := hn 6 _ rfl
      have n7 := hn 7 _ rfl
      have n8 := hn 8 _ rfl
      have n9 := hn 9 _ rfl
      have n10 := hn 10 _ rfl
      have HW_w2 := hid hbw
      clear hm hn hbw
      go_wp2_with fail
      go_ret2
      exact ⟨HW_w2.out, .slice none 0 0, by rw [HR.out]; rfl, by rw [HR.out]; exact SliceR.nil_ 0 (Nat.zero_le _) none⟩
    | true =>
      rw [hvt] at CN CP
      rw [hvb] at CB
      have HRr := hid (HR2.out (by rw [hvt, hvb]; rfl))
      cases hpi : posIn t p with
      | false =>
        have HR : Hid (r = ([], 2)) := HRr.out (by rw [hpi]; rfl)
        rw [hpi] at CP
        clear HR1 HR2 HRr hvt hvb hgood hpi
        obtain ⟨hm, hn, hbw⟩ := KB.out W0 (Below.refl _ _)
        have m0 := hm 0 _ rfl
        have m1 := hm 1 _ rfl
        have m2 := hm 2 _ rfl
        have m3 := hm 3 _ rfl
        have n0 := hn 0 _ rfl
        have n1 := hn 1 _ rfl
        have n2 := hn 2 _ rfl
        have n3 := hn 3 _ rfl
        have n4 := hn 4 _ rfl
        have n5 := hn 5 _ rfl
        have n6 := hn 6 _ rfl
        have n7 := hn 7 _ rfl
        have n8 := hn 8 _ rfl
        have n9 := hn 9 _ rfl
        have n10 := hn 10 _ rfl
        have HW_W0 := hid hbw
        clear hm hn hbw
        go_enter Tryz.func29, Tryz.ntmps29
        go_wp2_with fail
        refine (CN.out _ HW_W0.out).mono ?_
        rintro e w1 ⟨rfl, hb1⟩
        have HT1 := hid hb1
        clear hb1 hW0
        clear m0 m1 m2 m3 n0 n1 n2 n3 n4 n5 n6 n7 n8 n9 n10
        obtain ⟨hm, hn, hbw⟩ := KB.out w1 HT1.out
        have m0 := hm 0 _ rfl
        have m1 := hm 1 _ rfl
        have m2 := hm 2 _ rfl
        have m3 := hm 3 _ rfl
        have n0 := hn 0 _ rfl
        have n1 := hn 1 _ rfl
        have n2 := hn 2 _ rfl
        have n3 := hn 3 _ rfl
        have n4 := hn 4 _ rfl
        have n5 := hn 5 _ rfl
        have n6 := hn 6 _ rfl
        have n7 := hn 7 _ rfl
        have n8 := hn 8 _ rfl
        have n9 := hn 9 _ rfl
        have n10 := hn 10 _ rfl
        have HW_w1 := hid hbw
        clear hm hn hbw
        go_wp2_with fail
        refine (CB.out _ HW_w1.out).mono ?_
        rintro e w2 ⟨rfl, hb2⟩
        have HT2 := hid (bCl HT1.out hb2)
        clear hb2
        clear m0 m1 m2 m3 n0 n1 n2 n3 n4 n5 n6 n7 n8 n9 n10
        obtain ⟨hm, hn, hbw⟩ := KB.out w2 HT2.out
        have m0 := hm 0 _ rfl
        have m1 := hm 1 _ rfl
        have m2 := hm 2 _ rfl
        have m3 := hm 3 _ rfl
        have n0 := hn 0 _ rfl
        have n1 := hn 1 _ rfl
        have n2 := hn 2 _ rfl
        have n3 := hn 3 _ rfl
        have n4 := hn 4 _ rfl
        have n5 := hn 5 _ rfl
        have n6 := hn 6 _ rfl
        have n7 := hn 7 _ rfl
        have n8 := hn 8 _ rfl
        have n9 := hn 9 _ rfl
        have n10 := hn 10 _ rfl
        have HW_w2 := hid hbw
        clear hm hn hbw
        go_wp2_with fail
        refine (CP.out _ HW_w2.out).mono ?_
        rintro e w3 ⟨rfl, hb3⟩
        have HT3 := hid (bCl HT2.out hb3)
        clear hb3
        clear m0 m1 m2 m3 n0 n1 n2 n3 n4 n5 n6 n7 n8 n9 n10
        obtain ⟨hm, hn, hbw⟩ := KB.out w3 HT3.out
        have m0 := hm 0 _ rfl
        have m1 := hm 1 _ rfl
        have m2 := hm 2 _ rfl
        have m3 := hm 3 _ rfl
        have n0 := hn 0 _ rfl
        have n1 := hn 1 _ rfl
        have n2 := hn 2 _ rfl
        have n3 := hn 3 _ rfl
        have n4 := hn 4 _ rfl
        have n5 := hn 5 _ rfl
        have n6 := hn 6 _ rfl
        have n7 := hn 7 _ rfl
        have n8 := hn 8 _ rfl
        have n9 := hn 9 _ rfl
        have n10 := hn 10 _ rfl
        have HW_w3 := hid hbw
        clear hm hn hbw
        go_wp2_with fail
        go_ret2
        exact ⟨HW_w3.out, .slice none 0 0, by rw [HR.out]; rfl, by rw [HR.out]; exact SliceR.nil_ 0 (Nat.zero_le _) none⟩
      | true =>
        rw [hpi] at CP HRr
        by_cases hd0 : 0 ≤ d
        · have hd5 : ¬ d ≤ 5 := fun h => hgood ⟨hvt, hvb, hpi, hd0, h⟩
          have HR : Hid (r = ([], 2)) := HRr.out (by rw [decide_eq_false hd5]; simp)
          have i1 : decide (d < 0) = false := decide_eq_false (by omega)
          have i2 : decide (5 < d) = true := decide_eq_true (by omega)
          clear HR1 HR2 HRr hvt hvb hgood hpi hd0 hd5
          obtain ⟨hm, hn, hbw⟩ := KB.out W0 (Below.refl _ _)
          have m0 := hm 0 _ rfl
          have m1 := hm 1 _ rfl
          have m2 := hm 2 _ rfl
          have m3 := hm 3 _ rfl
          have n0 := hn 0 _ rfl
          have n1 := hn 1 _ rfl
          have n2 := hn 2 _ rfl
          have n3 := hn 3 _ rfl
          have n4 := hn 4 _ rfl
          have n5 := hn 5 _ rfl
          have n6 := hn 6 _ rfl
          have n7 := hn 7 _ rfl
          have n8 := hn 8 _ rfl
          have n9 := hn 9 _ rfl
          have n10 := hn 10 _ rfl
          have HW_W0 := hid hbw
          clear hm hn hbw
          go_enter Tryz.func29, Tryz.ntmps29
          go_wp2_with fail
          refine (CN.out _ HW_W0.out).mono ?_
          rintro e w1 ⟨rfl, hb1⟩
          have HT1 := hid hb1
          clear hb1 hW0
          clear m0 m1 m2 m3 n0 n1 n2 n3 n4 n5 n6 n7 n8 n9 n10
          obtain ⟨hm, hn, hbw⟩ := KB.out w1 HT1.out
          have m0 := hm 0 _ rfl
          have m1 := hm 1 _ rfl
          have m2 := hm 2 _ rfl
          have m3 := hm 3 _ rfl
          have n0 := hn 0 _ rfl
          have n1 := hn 1 _ rfl
          have n2 := hn 2 _ rfl
          have n3 := hn 3 _ rfl
          have n4 := hn 4 _ rfl
          have n5 := hn 5 _ rfl
          have n6 := hn 6 _ rfl
          have n7 := hn 7 _ rfl
          have n8 := hn 8 _ rfl
          have n9 := hn 9 _ rfl
          have n10 := hn 10 _ rfl
          have HW_w1 := hid hbw
          clear hm hn hbw
          go_wp2_with fail
          refine (CB.out _ HW_w1.out).mono ?_
          rintro e w2 ⟨rfl, hb2⟩
          have HT2 := hid (bCl HT1.out hb2)
          clear hb2
          clear m0 m1 m2 m3 n0 n1 n2 n3 n4 n5 n6 n7 n8 n9 n10
          obtain ⟨hm, hn, hbw⟩ := KB.out w2 HT2.out
          have m0 := hm 0 _ rfl
          have m1 := hm 1 _ rfl
          have m2 := hm 2 _ rfl
          have m3 := hm 3 _ rfl
          have n0 := hn 0 _ rfl
          have n1 := hn 1 _ rfl
          have n2 := hn 2 _ rfl
          have n3 := hn 3 _ rfl
          have n4 := hn 4 _ rfl
          have n5 := hn 5 _ rfl
          have n6 := hn 6 _ rfl
          have n7 := hn 7 _ rfl
          have n8 := hn 8 _ rfl
          have n9 := hn 9 _ rfl
          have n10 := hn 10 _ rfl
          have HW_w2 := hid hbw
          clear hm hn hbw
          go_wp2_with fail
          refine (CP.out _ HW_w2.out).mono ?_
          rintro e w3 ⟨rfl, hb3⟩
          have HT3 := hid (bCl HT2.out hb3)
          clear hb3
          clear m0 m1 m2 m3 n0 n1 n2 n3 n4 n5 n6 n7 n8 n9 n10
          obtain ⟨hm, hn, hbw⟩ := KB.out w3 HT3.out
          have m0 := hm 0 _ rfl
          have m1 := hm 1 _ rfl
          have m2 := hm 2 _ rfl
          have m3 := hm 3 _ rfl
          have n0 := hn 0 _ rfl
          have n1 := hn 1 _ rfl
          have n2 := hn 2 _ rfl
          have n3 := hn 3 _ rfl
          have n4 := hn 4 _ rfl
          have n5 := hn 5 _ rfl
          have n6 := hn 6 _ rfl
          have n7 := hn 7 _ rfl
          have n8 := hn 8 _ rfl
          have n9 := hn 9 _ rfl
          have n10 := hn 10 _ rfl
          have HW_w3 := hid hbw
          clear hm hn hbw
          go_wp2_with fail
          go_ret2
          exact ⟨HW_w3.out, .slice none 0 0, by rw [HR.out]; rfl, by rw [HR.out]; exact SliceR.nil_ 0 (Nat.zero_le _) none⟩
        · have HR : Hid (r = ([], 2)) := HRr.out (by rw [decide_eq_false hd0]; simp)
          have i1 : decide (d < 0) = true := decide_eq_true (by omega)
          clear HR1 HR2 HRr hvt hvb hgood hpi hd0
          obtain ⟨hm, hn, hbw⟩ := KB.out W0 (Below.refl _ _)
          have m0 := hm 0 _ rfl
          have m1 := hm 1 _ rfl
          have m2 := hm 2 _ rfl
          have m3 := hm 3 _ rfl
          have n0 := hn 0 _ rfl
          have n1 := hn 1 _ rfl
          have n2 := hn 2 _ rfl
          have n3 := hn 3 _ rfl
          have n4 := hn 4 _ rfl
          have n5 := hn 5 _ rfl
          have n6 := hn 6 _ rfl
          have n7 := hn 7 _ rfl
          have n8 := hn 8 _ rfl
          have n9 := hn 9 _ rfl
          have n10 := hn 10 _ rfl
          have HW_W0 := hid hbw
          clear hm hn hbw
          go_enter Tryz.func29, Tryz.ntmps29
          go_wp2_with fail
          refine (CN.out _ HW_W0.out).mono ?_
          rintro e w1 ⟨rfl, hb1⟩
          have HT1 := hid hb1
          clear hb1 hW0
          clear m0 m1 m2 m3 n0 n1 n2 n3 n4 n5 n6 n7 n8 n9 n10
          obtain ⟨hm, hn, hbw⟩ := KB.out w1 HT1.out
          have m0 := hm 0 _ rfl
          have m1 := hm 1 _ rfl
          have m2 := hm 2 _ rfl
          have m3 := hm 3 _ rfl
          have n0 := hn 0 _ rfl
          have n1 := hn 1 _ rfl
          have n2 := hn 2 _ rfl
          have n3 := hn 3 _ rfl
          have n4 := hn 4 _ rfl
          have n5 := hn 5 _ rfl
          have n6 := hn 6 _ rfl
          have n7 := hn 7 _ rfl
          have n8 := hn 8 _ rfl
          have n9 := hn 9 _ rfl
          have n10 := hn 10 _ rfl
          have HW_w1 := hid hbw
          clear hm hn hbw
          go_wp2_with fail
          refine (CB.out _ HW_w1.out).mono ?_
          rintro e w2 ⟨rfl, hb2⟩
          have HT2 := hid (bCl HT1.out hb2)
          clear hb2
          clear m0 m1 m2 m3 n0 n1 n2 n3 n4 n5 n6 n7 n8 n9 n10
          obtain ⟨hm, hn, hbw⟩ := KB.out w2 HT2.out
          have m0 := hm 0 _ rfl
          have m1 := hm 1 _ rfl
          have m2 := hm 2 _ rfl
          have m3 := hm 3 _ rfl
          have n0 := hn 0 _ rfl
          have n1 := hn 1 _ rfl
          have n2 := hn 2 _ rfl
          have n3 := hn 3 _ rfl
          have n4 := hn 4 _ rfl
          have n5 := hn 5 _ rfl
          have n6 := hn 6 _ rfl
          have n7 := hn 7 _ rfl
          have n8 := hn 8 _ rfl
          have n9 := hn 9 _ rfl
          have n10 := hn 10 _ rfl
          have HW_w2 := hid hbw
          clear hm hn hbw
          go_wp2_with fail
          refine (CP.out _ HW_w2.out).mono ?_
          rintro e w3 ⟨rfl, hb3⟩
          have HT3 := hid (bCl HT2.out hb3)
          clear hb3
          clear m0 m1 m2 m3 n0 n1 n2 n3 n4 n5 n6 n7 n8 n9 n10
          obtain ⟨hm, hn, hbw⟩ := KB.out w3 HT3.out
          have m0 := hm 0 _ rfl
          have m1 := hm 1 _ rfl
          have m2 := hm 2 _ rfl
          have m3 := hm 3 _ rfl
          have n0 := hn 0 _ rfl
          have n1 := hn 1 _ rfl
          have n2 := hn 2 _ rfl
          have n3 := hn 3 _ rfl
          have n4 := hn 4 _ rfl
          have n5 := hn 5 _ rfl
          have n6 := hn 6 _ rfl
          have n7 := hn 7 _ rfl
          have n8 := hn 8 _ rfl
          have n9 := hn 9 _ rfl
          have n10 := hn 10 _ rfl
          have HW_w3 := hid hbw
          clear hm hn hbw
          go_wp2_with fail
          go_ret2
          exact ⟨HW_w3.out, .slice none 0 0, by rw [HR.out]; rfl, by rw [HR.out]; exact SliceR.nil_ 0 (Nat.zero_le _) none⟩
end Go.Proofs.YtmahiejfniaahaaGreatDoor
