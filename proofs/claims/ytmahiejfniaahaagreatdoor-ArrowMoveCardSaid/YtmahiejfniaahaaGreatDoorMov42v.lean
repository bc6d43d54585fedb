/- ref42.Move at valid arguments. Written by wip/genr42.py. -/
import Derived.Test.YtmahiejfniaahaaGreatDoorMov42ev
import Derived.Test.YtmahiejfniaahaaGreatDoorPos7v
import Derived.Laws.EntriesVeiled
import Derived.Deep.RegionHeld3
import Derived.Deep.DeepCutAuto
set_option linter.unusedVariables false
set_option linter.unusedSimpArgs false
set_option maxRecDepth 100000
namespace Go.Proofs.YtmahiejfniaahaaGreatDoor
open Go.RowKit
set_option maxHeartbeats 8000000 in
theorem rmove0_any (t : Tree) (b : Bx) (p : List Int) (A Ak As Ap : Option Addr) (cap ck cs cp : Nat) (w : World) (hv : SliceR treeE w (Lt w.heap.size) t.kids (.slice A t.kids.length cap)) (hok : NodeOk t) (hct : countS t ≤ 900000) (hb : BoxIn w b Ak As ck cs) (hcb : cntB b ≤ 1000000) (hp : IntsR w (Lt w.heap.size) p (.slice Ap p.length cp)) (hvt : validS t = true) (hvb : validB b = true) (hpi : posIn t p = true) :
    Calls Tryz.prog 30 #[nodeV t A cap, boxV b Ak As ck cs, .slice Ap p.length cp, .int .i64 0] w (PosRes w (moveS t p 0)) := by
  obtain ⟨q, x, hqx⟩ := posIn_ne hpi
  obtain ⟨t', hr1, hr2, hr3⟩ := posIn_row t q x (by rw [← hqx]; exact hpi)
  have hrr := rowRes_rowS hvt hr1
  have hpl : p.length = q.length + 1 := by rw [hqx]; simp
  have CN : Hid (∀ W, Below w.heap.size w W → Calls Tryz.prog 31 #[nodeV t A cap] W fun e w' => e = .returned (.bool (validS t)) ∧ Below W.heap.size W w') := fun W hW => valid_any t A cap W (hv.below hW hW.size) hok.2.2 (by omega)
  have CB : Hid (∀ W, Below w.heap.size w W → Calls Tryz.prog 41 #[boxV b Ak As ck cs] W fun e w' => e = .returned (.bool (validB b)) ∧ Below W.heap.size W w') := fun W hW => bvalid28_any b Ak As ck cs W hb.ok.name (hb.below hW).src (hb.below hW).kids hcb
  have CP : Hid (∀ W, Below w.heap.size w W → Calls Tryz.prog 42 #[nodeV t A cap, .slice Ap p.length cp] W fun e w' => e = .returned (.bool (validS t && posIn t p)) ∧ Below W.heap.size W w') := fun W hW => rValid_any t p A cap (.slice Ap p.length cp) W (hv.below hW hW.size) hok.2.2 hct (hp.below hW hW.size)
  rw [hvt] at CN
  rw [hvb] at CB
  rw [hvt, hpi] at CP
  have HIS : Hid ((idxS (allS [] t) p).isSome = true) := by show _ = _; rw [idxS_isSome]; exact hpi
  have CIX : Hid (∀ W, Below w.heap.size w W → Calls Tryz.prog 65 #[nodeV t A cap, .slice Ap p.length cp] W (IdxRes W (validS t) (allS [] t) p)) := fun W hW => rIndex_any t p A cap _ W (hv.below hW hW.size) hok.2.2 hct (hp.below hW hW.size)
  have CAT : Hid (∀ (i : Int) W, Below w.heap.size w W → Calls Tryz.prog 66 #[nodeV t A cap, .int .i64 i] W (PosRes W (atR t i))) := fun i W hW => rAt_any t i A cap W (hv.below hW hW.size) hok.2.2 hct
  have HLL := hid (allS_le t hct)
  have HST : Hid (∀ i : Nat, idxS (allS [] t) p = some i → moveS t p 0 = if (atR t ((i : Int) + (-1))).2 = 0 then ((atR t ((i : Int) + (-1))).1, 0) else ([], 8)) := fun i hi => by
    rw [moveS, if_neg (by simp [hvt]), if_neg (by simp [hpi])]
    simp only [stepR, stepO, hvt, hi, atR, if_true]
    all_goals rfl
  rw [hvt] at CIX
  have HROWQ : Hid (∀ W A1 c1, Below w.heap.size w W → IntsR W (Lt W.heap.size) q (.slice A1 q.length c1) → Calls Tryz.prog 34 #[nodeV t A cap, .slice A1 q.length c1] W (RowP (Lt W.heap.size) W t'.kind t'.text t'.cols t'.kids 0)) := fun W A1 c1 hW h1 => by
    have h := rRow_any t q A A1 cap c1 W (hv.below hW hW.size) hok.2.2 hct h1
    rw [hrr] at h
    exact h
  have hpp : IntsR w (Lt w.heap.size) (q ++ [x]) (.slice Ap (q.length + 1) cp) := by rw [← hpl, ← hqx]; exact hp
  have hcp := (ints_cap2 hpp).1
  have hpm := hp.lens
  unfold maxLen at hpm
  obtain ⟨A3, hcall4, hcut4⟩ := row42_q Ap q.length cp hcp (by omega)
  have hq4 := hcut4 _ _ _ hpp
  rw [List.take_left' rfl] at hq4
  have HQW : Hid (∀ W, Below w.heap.size w W → IntsR W (Lt W.heap.size) q (.slice A3 q.length cp)) := fun W hW => hq4.below hW hW.size
  have HCUTB : Hid (∀ W, Calls Tryz.prog 35 #[.slice Ap p.length cp] W fun e w' => e = .returned (.slice A3 q.length cp) ∧ Below W.heap.size W w') := fun W => by
    rw [hpl]
    exact (hcall4 W).mono fun e w' ⟨he, k, hk⟩ => ⟨he, by rw [hk]; exact bDn (Below.refl _ _) k⟩
  generalize hW0 : (w.alloc (Obj.cells #[.int .i64 t.kind, .string t.text, .int .i64 t.cols, .slice A t.kids.length cap] 24)).alloc (Obj.cells (boxC b.f (.slice Ak b.kids.length ck) (.slice As b.f.src.length cs)) 28) = W0
  have hz0 : W0.heap.size = w.heap.size + 1 + 1 := by rw [← hW0]; simp
  have hB0 : Below w.heap.size w W0 := by rw [← hW0]; exact bAl (bNew _ _) _
  have hb4 : MovBox W0 w.heap.size #[.int .i64 t.kind, .string t.text, .int .i64 t.cols, .slice A t.kids.length cap] := by
    rw [← hW0]
    exact (MovBox.new w _ _ _ rfl).below (bNew _ _) (by simp)
  have hb11 : MovBox W0 (w.heap.size + 1) (boxC b.f (.slice Ak b.kids.length ck) (.slice As b.f.src.length cs)) := by
    rw [← hW0]
    exact MovBox.new _ _ _ _ (by simp)
  have KB : Hid (∀ W, Below W0.heap.size W0 W → MovBox W w.heap.size #[.int .i64 t.kind, .string t.text, .int .i64 t.cols, .slice A t.kids.length cap] ∧ MovBox W (w.heap.size + 1) (boxC b.f (.slice Ak b.kids.length ck) (.slice As b.f.src.length cs)) ∧ Below w.heap.size w W) := fun W hW =>
    ⟨hb4.below hW (by omega), hb11.below hW (by omega), hB0.trans (hW.mono hB0.size)⟩
  generalize hrs : t'.kids = rs at *
  generalize moveS t p 0 = R0 at *
  clear hv hok hct hb hcb hp hvt hvb hpi hqx hr1 hr2 hr3 hrr hpp hcp hpm hcall4 hcut4 hq4 hz0 hB0 hb4 hb11 hrs
  generalize p.length = pn at *
  clear hpl
  obtain ⟨tk, tx, tc, ts⟩ := t
  obtain ⟨f, ks⟩ := b
  obtain ⟨kind, name, size, bw, bh, bd, bx, by_, of_, src⟩ := f
  simp only [nodeV, boxV, boxC, Tree.kind, Tree.text, Tree.cols, Tree.kids, Bx.f, Bx.kids] at *
  obtain ⟨hm, hn, hbw⟩ := KB.out W0 (Below.refl _ _)
  have m0 := hm 0 _ rfl
  have m1 := hm 1 _ rfl
  have m2 := hm 2 _ rfl
  have m3 := hm 3 _ rfl
  have n0 := hn 0 _ rfl
  have n1 := hn 1 _ rfl
  have n2 := hn 2 _ rfl
  have n3 := hn 3 _ rfl
  have n4 := hn 4 _ rfl
  have n5 := hn 5 _ rfl
  have n6 := hn 6 _ rfl
  have n7 := hn 7 _ rfl
  have n8 := hn 8 _ rfl
  have n9 := hn 9 _ rfl
  have n10 := hn 10 _ rfl
  have HW_W0 := hid hbw
  clear hm hn hbw
  go_enter Tryz.func30, Tryz.ntmps30
  go_wp2_with fail
  refine (CN.out _ HW_W0.out).mono ?_
  rintro e w1 ⟨rfl, hb1⟩
  have HT1 := hid hb1
  clear hb1 hW0
  clear m0 m1 m2 m3 n0 n1 n2 n3 n4 n5 n6 n7 n8 n9 n10
  obtain ⟨hm, hn, hbw⟩ := KB.out w1 HT1.out
  have m0 := hm 0 _ rfl
  have m1 := hm 1 _ rfl
  have m2 := hm 2 _ rfl
  have m3 := hm 3 _ rfl
  have n0 := hn 0 _ rfl
  have n1 := hn 1 _ rfl
  have n2 := hn 2 _ rfl
  have n3 := hn 3 _ rfl
  have n4 := hn 4 _ rfl
  have n5 := hn 5 _ rfl
  have n6 := hn 6 _ rfl
  have n7 := hn 7 _ rfl
  have n8 := hn 8 _ rfl
  have n9 := hn 9 _ rfl
  have n10 := hn 10 _ rfl
  have HW_w1 := hid hbw
  clear hm hn hbw
  go_wp2_with fail
  refine (CB.out _ HW_w1.out).mono ?_
  rintro e w2 ⟨rfl, hb2⟩
  have HT2 := hid (bCl HT1.out hb2)
  clear hb2
  clear m0 m1 m2 m3 n0 n1 n2 n3 n4 n5 n6 n7 n8 n9 n10
  obtain ⟨hm, hn, hbw⟩ := KB.out w2 HT2.out
  have m0 := hm 0 _ rfl
  have m1 := hm 1 _ rfl
  have m2 := hm 2 _ rfl
  have m3 := hm 3 _ rfl
  have n0 := hn 0 _ rfl
  have n1 := hn 1 _ rfl
  have n2 := hn 2 _ rfl
  have n3 := hn 3 _ rfl
  have n4 := hn 4 _ rfl
  have n5 := hn 5 _ rfl
  have n6 := hn 6 _ rfl
  have n7 := hn 7 _ rfl
  have n8 := hn 8 _ rfl
  have n9 := hn 9 _ rfl
  have n10 := hn 10 _ rfl
  have HW_w2 := hid hbw
  clear hm hn hbw
  go_wp2_with fail
  refine (CP.out _ HW_w2.out).mono ?_
  rintro e w3 ⟨rfl, hb3⟩
  have HT3 := hid (bCl HT2.out hb3)
  clear hb3
  clear m0 m1 m2 m3 n0 n1 n2 n3 n4 n5 n6 n7 n8 n9 n10
  obtain ⟨hm, hn, hbw⟩ := KB.out w3 HT3.out
  have m0 := hm 0 _ rfl
  have m1 := hm 1 _ rfl
  have m2 := hm 2 _ rfl
  have m3 := hm 3 _ rfl
  have n0 := hn 0 _ rfl
  have n1 := hn 1 _ rfl
  have n2 := hn 2 _ rfl
  have n3 := hn 3 _ rfl
  have n4 := hn 4 _ rfl
  have n5 := hn 5 _ rfl
  have n6 := hn 6 _ rfl
  have n7 := hn 7 _ rfl
  have n8 := hn 8 _ rfl
  have n9 := hn 9 _ rfl
  have n10 := hn 10 _ rfl
  have HW_w3 := hid hbw
  clear hm hn hbw
  have KX : Hid (∀ W, Below w3.heap.size w3 W → MovBox W w.heap.size #[.int .i64 tk, .string tx, .int .i64 tc, .slice A ts.length cap] ∧ MovBox W (w.heap.size + 1) #[.int .i64 kind, .string name, .int .i64 size, .int .i64 bw, .int .i64 bh, .int .i64 bd, .int .i64 bx, .int .i64 by_, .slice Ak ks.length ck, .int .i64 of_, .slice As src.length cs] ∧ Below w.heap.size w W) := fun W hW => KB.out W (bCl HT3.out hW)
  have HQ4 : Hid (∀ W, Below w3.heap.size w3 W → IntsR W (Lt W.heap.size) q (.slice A3 q.length cp)) := fun W hW => HQW.out W (KX.out W hW).2.2
  have HGTW : Hid (w.heap.size < w3.heap.size) := cIn m0
  have ne0 : ¬ (w3.heap.size = w.heap.size) := Nat.ne_of_gt HGTW.out
  have HDR : Hid (Below w3.heap.size w3 w3.drew) := (Below.refl _ _).drew
  have HDZ : Hid (Below w3.heap.size w3 (w3.alloc (Obj.cells #[.int .i64 0, .string ⟨#[]⟩, .int .i64 0, .slice none 0 0] 24)).drew) := (bNew _ _).drew
  have HZN : Hid (Four_ (w3.alloc (Obj.cells #[.int .i64 0, .string ⟨#[]⟩, .int .i64 0, .slice none 0 0] 24)).drew w3.heap.size [.int .i64 0, .string ⟨#[]⟩, .int .i64 0, .slice none 0 0]) := Four_.new w3 _ _ _ rfl _ rfl
  go_upto_region 5 with fail
  go_cut [10, 11] (fun p e wx => ∃ g4 A' c', p = .pointer (some ⟨g4, 0, none⟩) ∧ e = .int .i64 0 ∧ wx.cell? ⟨g4, 3, none⟩ = some (.slice A' rs.length c') ∧ Below w3.heap.size w3 wx)
  case first =>
    go_region_held3 (fun w' => w'.cell? ⟨w.heap.size, 0, none⟩ = some (.int .i64 tk) ∧ w'.cell? ⟨w.heap.size, 1, none⟩ = some (.string tx) ∧ w'.cell? ⟨w.heap.size, 2, none⟩ = some (.int .i64 tc) ∧ w'.cell? ⟨w.heap.size, 3, none⟩ = some (.slice A ts.length cap)) (go_keep) (first
      | (go_at_call 35; (with_reducible refine (HCUTB.out w3.drew).mono ?_); rintro e w1 ⟨rfl, hb1⟩; have HX1 : Hid (Below w3.heap.size w3 w1) := bDr hb1; clear hb1; obtain ⟨hm, hn, hbw⟩ := KX.out w1 HX1.out; have m0 := hm 0 _ rfl; have m1 := hm 1 _ rfl; have m2 := hm 2 _ rfl; have m3 := hm 3 _ rfl; clear hm hn hbw)
      | (go_at_call 35; (with_reducible refine (HCUTB.out _).mono ?_); rintro e w1 ⟨rfl, hb1⟩; have HX1 := hid (bCl HDZ.out hb1); have HZ1 := hid (HZN.out.keep hb1); obtain ⟨z0, z1, z2, z3, y0, y1, y2, y3⟩ := HZ1.out.facts; clear hb1; obtain ⟨hm, hn, hbw⟩ := KX.out w1 HX1.out; have m0 := hm 0 _ rfl; have m1 := hm 1 _ rfl; have m2 := hm 2 _ rfl; have m3 := hm 3 _ rfl; clear hm hn hbw)
      | (go_at_call 34; (with_reducible refine (HROWQ.out w1 _ _ (KX.out _ HX1.out).2.2 (HQ4.out _ HX1.out)).mono ?_); rintro e w2 ⟨v2, rfl, hr2, hb2⟩; obtain ⟨A2, c2, rfl⟩ := hr2.form; have HX2 := hid (bCl HX1.out hb2); have HZ2 := hid (HZ1.out.keep hb2); obtain ⟨z0, z1, z2, z3, y0, y1, y2, y3⟩ := HZ2.out.facts; clear hr2 hb2; obtain ⟨hm, hn, hbw⟩ := KX.out w2 HX2.out; have m0 := hm 0 _ rfl; have m1 := hm 1 _ rfl; have m2 := hm 2 _ rfl; have m3 := hm 3 _ rfl; clear hm hn hbw)
      | (go_at_call 34; (with_reducible refine (HROWQ.out w1 _ _ (KX.out _ HX1.out).2.2 (HQ4.out _ HX1.out)).mono ?_); rintro e w2 ⟨v2, rfl, hr2, hb2⟩; obtain ⟨A2, c2, rfl⟩ := hr2.form; have HX2 := hid (bCl HX1.out hb2); clear hr2 hb2; obtain ⟨hm, hn, hbw⟩ := KX.out w2 HX2.out; have m0 := hm 0 _ rfl; have m1 := hm 1 _ rfl; have m2 := hm 2 _ rfl; have m3 := hm 3 _ rfl; clear hm hn hbw)
      | (go_at_call 34; (with_reducible refine (HROWQ.out (w1.alloc (Obj.cells #[.int .i64 0, .string ⟨#[]⟩, .int .i64 0, .slice none 0 0] 24)) _ _ (KX.out _ (bAl HX1.out _)).2.2 (HQ4.out _ (bAl HX1.out _))).mono ?_); rintro e w2 ⟨v2, rfl, hr2, hb2⟩; obtain ⟨A2, c2, rfl⟩ := hr2.form; have HX2 := hid (bCl (bAl HX1.out _) hb2); have HZ2 := hid ((Four_.new w1 _ 24 _ rfl [.int .i64 0, .string ⟨#[]⟩, .int .i64 0, .slice none 0 0] rfl).keep hb2); have HXL := hid HX1.out.size; have ne1 : ¬ (w1.heap.size = w.heap.size) := (Nat.ne_of_gt (Nat.lt_of_lt_of_le HGTW.out HXL.out)); obtain ⟨z0, z1, z2, z3, y0, y1, y2, y3⟩ := HZ2.out.facts; clear hr2 hb2; obtain ⟨hm, hn, hbw⟩ := KX.out w2 HX2.out; have m0 := hm 0 _ rfl; have m1 := hm 1 _ rfl; have m2 := hm 2 _ rfl; have m3 := hm 3 _ rfl; clear hm hn hbw))
    all_goals
      go_wp2_with fail
      go_meet
      try dsimp only [Tree.kind, Tree.text, Tree.cols, Tree.kids]
      first
        | ((with_reducible refine ⟨_, A2, c2, rfl, rfl, ?_, bAl HX2.out _⟩); exact cNew _ _ _ _ _ rfl)
        | (with_reducible exact ⟨_, _, _, rfl, rfl, (HZ2.out.set _ _ _ _ (Nat.le_refl _) HX2.out).1, (HZ2.out.set _ _ _ _ (Nat.le_refl _) HX2.out).2⟩)
        | (with_reducible exact ⟨_, _, _, rfl, rfl, (HZ2.out.set _ _ _ _ HXL.out HX2.out).1, (HZ2.out.set _ _ _ _ HXL.out HX2.out).2⟩)
  case rest =>
    obtain ⟨g4, A5, c5, rfl, rfl, hc4, hbx⟩ := hcut
    have HBX := hid hbx
    have HC4 := hid hc4
    clear hbx hc4
    clear m0 m1 m2 m3 n0 n1 n2 n3 n4 n5 n6 n7 n8 n9 n10
    obtain ⟨hm, hn, hbw⟩ := KX.out wc HBX.out
    have m0 := hm 0 _ rfl
    have m1 := hm 1 _ rfl
    have m2 := hm 2 _ rfl
    have m3 := hm 3 _ rfl
    have n0 := hn 0 _ rfl
    have n1 := hn 1 _ rfl
    have n2 := hn 2 _ rfl
    have n3 := hn 3 _ rfl
    have n4 := hn 4 _ rfl
    have n5 := hn 5 _ rfl
    have n6 := hn 6 _ rfl
    have n7 := hn 7 _ rfl
    have n8 := hn 8 _ rfl
    have n9 := hn 9 _ rfl
    have n10 := hn 10 _ rfl
    have HW_wc := hid hbw
    clear hm hn hbw
    go_wp2_with fail
    refine (CIX.out _ HW_wc.out).mono ?_
    rintro e w7 ⟨hb7, (⟨h, _⟩ | ⟨_, (⟨h, _⟩ | ⟨i, hi, his, rfl⟩)⟩)⟩
    case inl => cases h
    case inr.inl => exact absurd HIS.out (by rw [h]; simp)
    have HB7 : Hid (Below w3.heap.size w3 w7) := hid (bCl HBX.out hb7)
    have HR := hid (HST.out i his)
    obtain ⟨im, him⟩ : ∃ im, (i : Int) + (-1) = im := ⟨_, rfl⟩
    have hll := HLL.out
    have u1 : IntKind.i64.wrap ((i : Int) + 0) = (i : Int) + 0 := IntWalk.i64_in _ (by omega)
    have u2 : IntKind.i64.wrap ((i : Int) + 0 - 1) = im := by rw [← him, show (i : Int) + 0 - 1 = (i : Int) + (-1) by omega]; exact IntWalk.i64_in _ (by omega)
    have u3 : IntKind.i64.wrap (i : Int) = (i : Int) := IntWalk.i64_in _ (by omega)
    have u4 : IntKind.i64.wrap ((i : Int) - 1) = im := by rw [← him, show (i : Int) - 1 = (i : Int) + (-1) by omega]; exact IntWalk.i64_in _ (by omega)
    rw [him] at HR
    have CAX := hid (CAT.out im)
    clear hb7 his him hi hll CAT CIX HST
    clear m0 m1 m2 m3 n0 n1 n2 n3 n4 n5 n6 n7 n8 n9 n10
    obtain ⟨hm, hn, hbw⟩ := KX.out w7 HB7.out
    have m0 := hm 0 _ rfl
    have m1 := hm 1 _ rfl
    have m2 := hm 2 _ rfl
    have m3 := hm 3 _ rfl
    have n0 := hn 0 _ rfl
    have n1 := hn 1 _ rfl
    have n2 := hn 2 _ rfl
    have n3 := hn 3 _ rfl
    have n4 := hn 4 _ rfl
    have n5 := hn 5 _ rfl
    have n6 := hn 6 _ rfl
    have n7 := hn 7 _ rfl
    have n8 := hn 8 _ rfl
    have n9 := hn 9 _ rfl
    have n10 := hn 10 _ rfl
    have HW_w7 := hid hbw
    clear hm hn hbw
    go_wp2_with fail
    refine (CAX.out _ HW_w7.out).mono ?_
    generalize atR _ im = rr at *
    obtain ⟨ps, er⟩ := rr
    rintro e w8 ⟨hb8, v8, rfl, hi8⟩
    obtain ⟨A8, c8, rfl⟩ := hi8.form
    have HB8 := hid (bCl HW_w7.out hb8)
    have HI8 := hid hi8
    have HSZ := hid HW_w7.out.size
    clear hb8 hi8
    by_cases he : er = 0
    · subst he
      go_wp2_with fail
      go_ret2
      rw [HR.out]
      exact ⟨HB8.out, _, rfl, HI8.out.keep (fun _ _ => rfl) (fun k hk => ⟨Nat.le_trans HSZ.out hk.1, hk.2⟩)⟩
    · have i1 : (er != 0) = true := by simpa using he
      have HE := hid he
      clear he
      go_wp2_with fail
      go_ret2
      rw [HR.out, if_neg HE.out]
      exact ⟨HB8.out, .slice none 0 0, rfl, SliceR.nil_ 0 (Nat.zero_le _) none⟩
set_option maxHeartbeats 8000000 in
theorem rmove1_any (t : Tree) (b : Bx) (p : List Int) (A Ak As Ap : Option Addr) (cap ck cs cp : Nat) (w : World) (hv : SliceR treeE w (Lt w.heap.size) t.kids (.slice A t.kids.length cap)) (hok : NodeOk t) (hct : countS t ≤ 900000) (hb : BoxIn w b Ak As ck cs) (hcb : cntB b ≤ 1000000) (hp : IntsR w (Lt w.heap.size) p (.slice Ap p.length cp)) (hvt : validS t = true) (hvb : validB b = true) (hpi : posIn t p = true) :
    Calls Tryz.prog 30 #[nodeV t A cap, boxV b Ak As ck cs, .slice Ap p.length cp, .int .i64 1] w (PosRes w (moveS t p 1)) := by
  obtain ⟨q, x, hqx⟩ := posIn_ne hpi
  obtain ⟨t', hr1, hr2, hr3⟩ := posIn_row t q x (by rw [← hqx]; exact hpi)
  have hrr := rowRes_rowS hvt hr1
  have hpl : p.length = q.length + 1 := by rw [hqx]; simp
  have CN : Hid (∀ W, Below w.heap.size w W → Calls Tryz.prog 31 #[nodeV t A cap] W fun e w' => e = .returned (.bool (validS t)) ∧ Below W.heap.size W w') := fun W hW => valid_any t A cap W (hv.below hW hW.size) hok.2.2 (by omega)
  have CB : Hid (∀ W, Below w.heap.size w W → Calls Tryz.prog 41 #[boxV b Ak As ck cs] W fun e w' => e = .returned (.bool (validB b)) ∧ Below W.heap.size W w') := fun W hW => bvalid28_any b Ak As ck cs W hb.ok.name (hb.below hW).src (hb.below hW).kids hcb
  have CP : Hid (∀ W, Below w.heap.size w W → Calls Tryz.prog 42 #[nodeV t A cap, .slice Ap p.length cp] W fun e w' => e = .returned (.bool (validS t && posIn t p)) ∧ Below W.heap.size W w') := fun W hW => rValid_any t p A cap (.slice Ap p.length cp) W (hv.below hW hW.size) hok.2.2 hct (hp.below hW hW.size)
  rw [hvt] at CN
  rw [hvb] at CB
  rw [hvt, hpi] at CP
  have HIS : Hid ((idxS (allS [] t) p).isSome = true) := by show _ = _; rw [idxS_isSome]; exact hpi
  have CIX : Hid (∀ W, Below w.heap.size w W → Calls Tryz.prog 65 #[nodeV t A cap, .slice Ap p.length cp] W (IdxRes W (validS t) (allS [] t) p)) := fun W hW => rIndex_any t p A cap _ W (hv.below hW hW.size) hok.2.2 hct (hp.below hW hW.size)
  have CAT : Hid (∀ (i : Int) W, Below w.heap.size w W → Calls Tryz.prog 66 #[nodeV t A cap, .int .i64 i] W (PosRes W (atR t i))) := fun i W hW => rAt_any t i A cap W (hv.below hW hW.size) hok.2.2 hct
  have HLL := hid (allS_le t hct)
  have HST : Hid (∀ i : Nat, idxS (allS [] t) p = some i → moveS t p 1 = if (atR t ((i : Int) + 1)).2 = 0 then ((atR t ((i : Int) + 1)).1, 0) else ([], 8)) := fun i hi => by
    rw [moveS, if_neg (by simp [hvt]), if_neg (by simp [hpi])]
    simp only [stepR, stepO, hvt, hi, atR, if_true]
    all_goals rfl
  rw [hvt] at CIX
  have HROWQ : Hid (∀ W A1 c1, Below w.heap.size w W → IntsR W (Lt W.heap.size) q (.slice A1 q.length c1) → Calls Tryz.prog 34 #[nodeV t A cap, .slice A1 q.length c1] W (RowP (Lt W.heap.size) W t'.kind t'.text t'.cols t'.kids 0)) := fun W A1 c1 hW h1 => by
    have h := rRow_any t q A A1 cap c1 W (hv.below hW hW.size) hok.2.2 hct h1
    rw [hrr] at h
    exact h
  have hpp : IntsR w (Lt w.heap.size) (q ++ [x]) (.slice Ap (q.length + 1) cp) := by rw [← hpl, ← hqx]; exact hp
  have hcp := (ints_cap2 hpp).1
  have hpm := hp.lens
  unfold maxLen at hpm
  obtain ⟨A3, hcall4, hcut4⟩ := row42_q Ap q.length cp hcp (by omega)
  have hq4 := hcut4 _ _ _ hpp
  rw [List.take_left' rfl] at hq4
  have HQW : Hid (∀ W, Below w.heap.size w W → IntsR W (Lt W.heap.size) q (.slice A3 q.length cp)) := fun W hW => hq4.below hW hW.size
  have HCUTB : Hid (∀ W, Calls Tryz.prog 35 #[.slice Ap p.length cp] W fun e w' => e = .returned (.slice A3 q.length cp) ∧ Below W.heap.size W w') := fun W => by
    rw [hpl]
    exact (hcall4 W).mono fun e w' ⟨he, k, hk⟩ => ⟨he, by rw [hk]; exact bDn (Below.refl _ _) k⟩
  generalize hW0 : (w.alloc (Obj.cells #[.int .i64 t.kind, .string t.text, .int .i64 t.cols, .slice A t.kids.length cap] 24)).alloc (Obj.cells (boxC b.f (.slice Ak b.kids.length ck) (.slice As b.f.src.length cs)) 28) = W0
  have hz0 : W0.heap.size = w.heap.size + 1 + 1 := by rw [← hW0]; simp
  have hB0 : Below w.heap.size w W0 := by rw [← hW0]; exact bAl (bNew _ _) _
  have hb4 : MovBox W0 w.heap.size #[.int .i64 t.kind, .string t.text, .int .i64 t.cols, .slice A t.kids.length cap] := by
    rw [← hW0]
    exact (MovBox.new w _ _ _ rfl).below (bNew _ _) (by simp)
  have hb11 : MovBox W0 (w.heap.size + 1) (boxC b.f (.slice Ak b.kids.length ck) (.slice As b.f.src.length cs)) := by
    rw [← hW0]
    exact MovBox.new _ _ _ _ (by simp)
  have KB : Hid (∀ W, Below W0.heap.size W0 W → MovBox W w.heap.size #[.int .i64 t.kind, .string t.text, .int .i64 t.cols, .slice A t.kids.length cap] ∧ MovBox W (w.heap.size + 1) (boxC b.f (.slice Ak b.kids.length ck) (.slice As b.f.src.length cs)) ∧ Below w.heap.size w W) := fun W hW =>
    ⟨hb4.below hW (by omega), hb11.below hW (by omega), hB0.trans (hW.mono hB0.size)⟩
  generalize hrs : t'.kids = rs at *
  generalize moveS t p 1 = R0 at *
  clear hv hok hct hb hcb hp hvt hvb hpi hqx hr1 hr2 hr3 hrr hpp hcp hpm hcall4 hcut4 hq4 hz0 hB0 hb4 hb11 hrs
  generalize p.length = pn at *
  clear hpl
  obtain ⟨tk, tx, tc, ts⟩ := t
  obtain ⟨f, ks⟩ := b
  obtain ⟨kind, name, size, bw, bh, bd, bx, by_, of_, src⟩ := f
  simp only [nodeV, boxV, boxC, Tree.kind, Tree.text, Tree.cols, Tree.kids, Bx.f, Bx.kids] at *
  obtain ⟨hm, hn, hbw⟩ := KB.out W0 (Below.refl _ _)
  have m0 := hm 0 _ rfl
  have m1 := hm 1 _ rfl
  have m2 := hm 2 _ rfl
  have m3 := hm 3 _ rfl
  have n0 := hn 0 _ rfl
  have n1 := hn 1 _ rfl
  have n2 := hn 2 _ rfl
  have n3 := hn 3 _ rfl
  have n4 := hn 4 _ rfl
  have n5 := hn 5 _ rfl
  have n6 := hn 6 _ rfl
  have n7 := hn 7 _ rfl
  have n8 := hn 8 _ rfl
  have n9 := hn 9 _ rfl
  have n10 := hn 10 _ rfl
  have HW_W0 := hid hbw
  clear hm hn hbw
  go_enter Tryz.func30, Tryz.ntmps30
  go_wp2_with fail
  refine (CN.out _ HW_W0.out).mono ?_
  rintro e w1 ⟨rfl, hb1⟩
  have HT1 := hid hb1
  clear hb1 hW0
  clear m0 m1 m2 m3 n0 n1 n2 n3 n4 n5 n6 n7 n8 n9 n10
  obtain ⟨hm, hn, hbw⟩ := KB.out w1 HT1.out
  have m0 := hm 0 _ rfl
  have m1 := hm 1 _ rfl
  have m2 := hm 2 _ rfl
  have m3 := hm 3 _ rfl
  have n0 := hn 0 _ rfl
  have n1 := hn 1 _ rfl
  have n2 := hn 2 _ rfl
  have n3 := hn 3 _ rfl
  have n4 := hn 4 _ rfl
  have n5 := hn 5 _ rfl
  have n6 := hn 6 _ rfl
  have n7 := hn 7 _ rfl
  have n8 := hn 8 _ rfl
  have n9 := hn 9 _ rfl
  have n10 := hn 10 _ rfl
  have HW_w1 := hid hbw
  clear hm hn hbw
  go_wp2_with fail
  refine (CB.out _ HW_w1.out).mono ?_
  rintro e w2 ⟨rfl, hb2⟩
  have HT2 := hid (bCl HT1.out hb2)
  clear hb2
  clear m0 m1 m2 m3 n0 n1 n2 n3 n4 n5 n6 n7 n8 n9 n10
  obtain ⟨hm, hn, hbw⟩ := KB.out w2 HT2.out
  have m0 := hm 0 _ rfl
  have m1 := hm 1 _ rfl
  have m2 := hm 2 _ rfl
  have m3 := hm 3 _ rfl
  have n0 := hn 0 _ rfl
  have n1 := hn 1 _ rfl
  have n2 := hn 2 _ rfl
  have n3 := hn 3 _ rfl
  have n4 := hn 4 _ rfl
  have n5 := hn 5 _ rfl
  have n6 := hn 6 _ rfl
  have n7 := hn 7 _ rfl
  have n8 := hn 8 _ rfl
  have n9 := hn 9 _ rfl
  have n10 := hn 10 _ rfl
  have HW_w2 := hid hbw
  clear hm hn hbw
  go_wp2_with fail
  refine (CP.out _ HW_w2.out).mono ?_
  rintro e w3 ⟨rfl, hb3⟩
  have HT3 := hid (bCl HT2.out hb3)
  clear hb3
  clear m0 m1 m2 m3 n0 n1 n2 n3 n4 n5 n6 n7 n8 n9 n10
  obtain ⟨hm, hn, hbw⟩ := KB.out w3 HT3.out
  have m0 := hm 0 _ rfl
  have m1 := hm 1 _ rfl
  have m2 := hm 2 _ rfl
  have m3 := hm 3 _ rfl
  have n0 := hn 0 _ rfl
  have n1 := hn 1 _ rfl
  have n2 := hn 2 _ rfl
  have n3 := hn 3 _ rfl
  have n4 := hn 4 _ rfl
  have n5 := hn 5 _ rfl
  have n6 := hn 6 _ rfl
  have n7 := hn 7 _ rfl
  have n8 := hn 8 _ rfl
  have n9 := hn 9 _ rfl
  have n10 := hn 10 _ rfl
  have HW_w3 := hid hbw
  clear hm hn hbw
  have KX : Hid (∀ W, Below w3.heap.size w3 W → MovBox W w.heap.size #[.int .i64 tk, .string tx, .int .i64 tc, .slice A ts.length cap] ∧ MovBox W (w.heap.size + 1) #[.int .i64 kind, .string name, .int .i64 size, .int .i64 bw, .int .i64 bh, .int .i64 bd, .int .i64 bx, .int .i64 by_, .slice Ak ks.length ck, .int .i64 of_, .slice As src.length cs] ∧ Below w.heap.size w W) := fun W hW => KB.out W (bCl HT3.out hW)
  have HQ4 : Hid (∀ W, Below w3.heap.size w3 W → IntsR W (Lt W.heap.size) q (.slice A3 q.length cp)) := fun W hW => HQW.out W (KX.out W hW).2.2
  have HGTW : Hid (w.heap.size < w3.heap.size) := cIn m0
  have ne0 : ¬ (w3.heap.size = w.heap.size) := Nat.ne_of_gt HGTW.out
  have HDR : Hid (Below w3.heap.size w3 w3.drew) := (Below.refl _ _).drew
  have HDZ : Hid (Below w3.heap.size w3 (w3.alloc (Obj.cells #[.int .i64 0, .string ⟨#[]⟩, .int .i64 0, .slice none 0 0] 24)).drew) := (bNew _ _).drew
  have HZN : Hid (Four_ (w3.alloc (Obj.cells #[.int .i64 0, .string ⟨#[]⟩, .int .i64 0, .slice none 0 0] 24)).drew w3.heap.size [.int .i64 0, .string ⟨#[]⟩, .int .i64 0, .slice none 0 0]) := Four_.new w3 _ _ _ rfl _ rfl
  go_upto_region 5 with fail
  go_cut [10, 11] (fun p e wx => ∃ g4 A' c', p = .pointer (some ⟨g4, 0, none⟩) ∧ e = .int .i64 0 ∧ wx.cell? ⟨g4, 3, none⟩ = some (.slice A' rs.length c') ∧ Below w3.heap.size w3 wx)
  case first =>
    go_region_held3 (fun w' => w'.cell? ⟨w.heap.size, 0, none⟩ = some (.int .i64 tk) ∧ w'.cell? ⟨w.heap.size, 1, none⟩ = some (.string tx) ∧ w'.cell? ⟨w.heap.size, 2, none⟩ = some (.int .i64 tc) ∧ w'.cell? ⟨w.heap.size, 3, none⟩ = some (.slice A ts.length cap)) (go_keep) (first
      | (go_at_call 35; (with_reducible refine (HCUTB.out w3.drew).mono ?_); rintro e w1 ⟨rfl, hb1⟩; have HX1 : Hid (Below w3.heap.size w3 w1) := bDr hb1; clear hb1; obtain ⟨hm, hn, hbw⟩ := KX.out w1 HX1.out; have m0 := hm 0 _ rfl; have m1 := hm 1 _ rfl; have m2 := hm 2 _ rfl; have m3 := hm 3 _ rfl; clear hm hn hbw)
      | (go_at_call 35; (with_reducible refine (HCUTB.out _).mono ?_); rintro e w1 ⟨rfl, hb1⟩; have HX1 := hid (bCl HDZ.out hb1); have HZ1 := hid (HZN.out.keep hb1); obtain ⟨z0, z1, z2, z3, y0, y1, y2, y3⟩ := HZ1.out.facts; clear hb1; obtain ⟨hm, hn, hbw⟩ := KX.out w1 HX1.out; have m0 := hm 0 _ rfl; have m1 := hm 1 _ rfl; have m2 := hm 2 _ rfl; have m3 := hm 3 _ rfl; clear hm hn hbw)
      | (go_at_call 34; (with_reducible refine (HROWQ.out w1 _ _ (KX.out _ HX1.out).2.2 (HQ4.out _ HX1.out)).mono ?_); rintro e w2 ⟨v2, rfl, hr2, hb2⟩; obtain ⟨A2, c2, rfl⟩ := hr2.form; have HX2 := hid (bCl HX1.out hb2); have HZ2 := hid (HZ1.out.keep hb2); obtain ⟨z0, z1, z2, z3, y0, y1, y2, y3⟩ := HZ2.out.facts; clear hr2 hb2; obtain ⟨hm, hn, hbw⟩ := KX.out w2 HX2.out; have m0 := hm 0 _ rfl; have m1 := hm 1 _ rfl; have m2 := hm 2 _ rfl; have m3 := hm 3 _ rfl; clear hm hn hbw)
      | (go_at_call 34; (with_reducible refine (HROWQ.out w1 _ _ (KX.out _ HX1.out).2.2 (HQ4.out _ HX1.out)).mono ?_); rintro e w2 ⟨v2, rfl, hr2, hb2⟩; obtain ⟨A2, c2, rfl⟩ := hr2.form; have HX2 := hid (bCl HX1.out hb2); clear hr2 hb2; obtain ⟨hm, hn, hbw⟩ := KX.out w2 HX2.out; have m0 := hm 0 _ rfl; have m1 := hm 1 _ rfl; have m2 := hm 2 _ rfl; have m3 := hm 3 _ rfl; clear hm hn hbw)
      | (go_at_call 34; (with_reducible refine (HROWQ.out (w1.alloc (Obj.cells #[.int .i64 0, .string ⟨#[]⟩, .int .i64 0, .slice none 0 0] 24)) _ _ (KX.out _ (bAl HX1.out _)).2.2 (HQ4.out _ (bAl HX1.out _))).mono ?_); rintro e w2 ⟨v2, rfl, hr2, hb2⟩; obtain ⟨A2, c2, rfl⟩ := hr2.form; have HX2 := hid (bCl (bAl HX1.out _) hb2); have HZ2 := hid ((Four_.new w1 _ 24 _ rfl [.int .i64 0, .string ⟨#[]⟩, .int .i64 0, .slice none 0 0] rfl).keep hb2); have HXL := hid HX1.out.size; have ne1 : ¬ (w1.heap.size = w.heap.size) := (Nat.ne_of_gt (Nat.lt_of_lt_of_le HGTW.out HXL.out)); obtain ⟨z0, z1, z2, z3, y0, y1, y2, y3⟩ := HZ2.out.facts; clear hr2 hb2; obtain ⟨hm, hn, hbw⟩ := KX.out w2 HX2.out; have m0 := hm 0 _ rfl; have m1 := hm 1 _ rfl; have m2 := hm 2 _ rfl; have m3 := hm 3 _ rfl; clear hm hn hbw))
    all_goals
      go_wp2_with fail
      go_meet
      try dsimp only [Tree.kind, Tree.text, Tree.cols, Tree.kids]
      first
        | ((with_reducible refine ⟨_, A2, c2, rfl, rfl, ?_, bAl HX2.out _⟩); exact cNew _ _ _ _ _ rfl)
        | (with_reducible exact ⟨_, _, _, rfl, rfl, (HZ2.out.set _ _ _ _ (Nat.le_refl _) HX2.out).1, (HZ2.out.set _ _ _ _ (Nat.le_refl _) HX2.out).2⟩)
        | (with_reducible exact ⟨_, _, _, rfl, rfl, (HZ2.out.set _ _ _ _ HXL.out HX2.out).1, (HZ2.out.set _ _ _ _ HXL.out HX2.out).2⟩)
  case rest =>
    obtain ⟨g4, A5, c5, rfl, rfl, hc4, hbx⟩ := hcut
    have HBX := hid hbx
    have HC4 := hid hc4
    clear hbx hc4
    clear m0 m1 m2 m3 n0 n1 n2 n3 n4 n5 n6 n7 n8 n9 n10
    obtain ⟨hm, hn, hbw⟩ := KX.out wc HBX.out
    have m0 := hm 0 _ rfl
    have m1 := hm 1 _ rfl
    have m2 := hm 2 _ rfl
    have m3 := hm 3 _ rfl
    have n0 := hn 0 _ rfl
    have n1 := hn 1 _ rfl
    have n2 := hn 2 _ rfl
    have n3 := hn 3 _ rfl
    have n4 := hn 4 _ rfl
    have n5 := hn 5 _ rfl
    have n6 := hn 6 _ rfl
    have n7 := hn 7 _ rfl
    have n8 := hn 8 _ rfl
    have n9 := hn 9 _ rfl
    have n10 := hn 10 _ rfl
    have HW_wc := hid hbw
    clear hm hn hbw
    go_wp2_with fail
    refine (CIX.out _ HW_wc.out).mono ?_
    rintro e w7 ⟨hb7, (⟨h, _⟩ | ⟨_, (⟨h, _⟩ | ⟨i, hi, his, rfl⟩)⟩)⟩
    case inl => cases h
    case inr.inl => exact absurd HIS.out (by rw [h]; simp)
    have HB7 : Hid (Below w3.heap.size w3 w7) := hid (bCl HBX.out hb7)
    have HR := hid (HST.out i his)
    obtain ⟨im, him⟩ : ∃ im, (i : Int) + 1 = im := ⟨_, rfl⟩
    have hll := HLL.out
    have u1 : IntKind.i64.wrap ((i : Int) + 2) = (i : Int) + 2 := IntWalk.i64_in _ (by omega)
    have u2 : IntKind.i64.wrap ((i : Int) + 2 - 1) = im := by rw [← him, show (i : Int) + 2 - 1 = (i : Int) + 1 by omega]; exact IntWalk.i64_in _ (by omega)
    have u3 : IntKind.i64.wrap (i : Int) = (i : Int) := IntWalk.i64_in _ (by omega)
    skip
    rw [him] at HR
    have CAX := hid (CAT.out im)
    clear hb7 his him hi hll CAT CIX HST
    clear m0 m1 m2 m3 n0 n1 n2 n3 n4 n5 n6 n7 n8 n9 n10
    obtain ⟨hm, hn, hbw⟩ := KX.out w7 HB7.out
    have m0 := hm 0 _ rfl
    have m1 := hm 1 _ rfl
    have m2 := hm 2 _ rfl
    have m3 := hm 3 _ rfl
    have n0 := hn 0 _ rfl
    have n1 := hn 1 _ rfl
    have n2 := hn 2 _ rfl
    have n3 := hn 3 _ rfl
    have n4 := hn 4 _ rfl
    have n5 := hn 5 _ rfl
    have n6 := hn 6 _ rfl
    have n7 := hn 7 _ rfl
    have n8 := hn 8 _ rfl
    have n9 := hn 9 _ rfl
    have n10 := hn 10 _ rfl
    have HW_w7 := hid hbw
    clear hm hn hbw
    go_wp2_with fail
    refine (CAX.out _ HW_w7.out).mono ?_
    generalize atR _ im = rr at *
    obtain ⟨ps, er⟩ := rr
    rintro e w8 ⟨hb8, v8, rfl, hi8⟩
    obtain ⟨A8, c8, rfl⟩ := hi8.form
    have HB8 := hid (bCl HW_w7.out hb8)
    have HI8 := hid hi8
    have HSZ := hid HW_w7.out.size
    clear hb8 hi8
    by_cases he : er = 0
    · subst he
      go_wp2_with fail
      go_ret2
      rw [HR.out]
      exact ⟨HB8.out, _, rfl, HI8.out.keep (fun _ _ => rfl) (fun k hk => ⟨Nat.le_trans HSZ.out hk.1, hk.2⟩)⟩
    · have i1 : (er != 0) = true := by simpa using he
      have HE := hid he
      clear he
      go_wp2_with fail
      go_ret2
      rw [HR.out, if_neg HE.out]
      exact ⟨HB8.out, .slice none 0 0, rfl, SliceR.nil_ 0 (Nat.zero_le _) none⟩
set_option maxHeartbeats 8000000 in
theorem rmove4_any (t : Tree) (b : Bx) (p : List Int) (A Ak As Ap : Option Addr) (cap ck cs cp : Nat) (w : World) (hv : SliceR treeE w (Lt w.heap.size) t.kids (.slice A t.kids.length cap)) (hok : NodeOk t) (hct : countS t ≤ 900000) (hb : BoxIn w b Ak As ck cs) (hcb : cntB b ≤ 1000000) (hp : IntsR w (Lt w.heap.size) p (.slice Ap p.length cp)) (hvt : validS t = true) (hvb : validB b = true) (hpi : posIn t p = true) :
    Calls Tryz.prog 30 #[nodeV t A cap, boxV b Ak As ck cs, .slice Ap p.length cp, .int .i64 4] w (PosRes w (vertR t b p 1)) := by
  obtain ⟨q, x, hqx⟩ := posIn_ne hpi
  obtain ⟨t', hr1, hr2, hr3⟩ := posIn_row t q x (by rw [← hqx]; exact hpi)
  have hrr := rowRes_rowS hvt hr1
  have hpl : p.length = q.length + 1 := by rw [hqx]; simp
  have CN : Hid (∀ W, Below w.heap.size w W → Calls Tryz.prog 31 #[nodeV t A cap] W fun e w' => e = .returned (.bool (validS t)) ∧ Below W.heap.size W w') := fun W hW => valid_any t A cap W (hv.below hW hW.size) hok.2.2 (by omega)
  have CB : Hid (∀ W, Below w.heap.size w W → Calls Tryz.prog 41 #[boxV b Ak As ck cs] W fun e w' => e = .returned (.bool (validB b)) ∧ Below W.heap.size W w') := fun W hW => bvalid28_any b Ak As ck cs W hb.ok.name (hb.below hW).src (hb.below hW).kids hcb
  have CP : Hid (∀ W, Below w.heap.size w W → Calls Tryz.prog 42 #[nodeV t A cap, .slice Ap p.length cp] W fun e w' => e = .returned (.bool (validS t && posIn t p)) ∧ Below W.heap.size W w') := fun W hW => rValid_any t p A cap (.slice Ap p.length cp) W (hv.below hW hW.size) hok.2.2 hct (hp.below hW hW.size)
  rw [hvt] at CN
  rw [hvb] at CB
  rw [hvt, hpi] at CP
  have HIS : Hid ((idxS (allS [] t) p).isSome = true) := by show _ = _; rw [idxS_isSome]; exact hpi
  have CVT : Hid (∀ W, Below w.heap.size w W → Calls Tryz.prog 67 #[nodeV t A cap, boxV b Ak As ck cs, .slice Ap p.length cp, .int .i64 1] W (PosRes W (vertR t b p 1))) := fun W hW => by
    have hp2 := hp.below hW hW.size
    have h := rvert_any t b q x 1 A Ak As Ap cap ck cs cp p.length W (hv.below hW hW.size) hok.2.2 hct (hb.below hW) hcb hpl (by rw [← hqx]; exact hp2) hvt hvb (by rw [← hqx]; exact hpi) (by decide)
    rw [← hqx] at h
    exact h
  have HROWQ : Hid (∀ W A1 c1, Below w.heap.size w W → IntsR W (Lt W.heap.size) q (.slice A1 q.length c1) → Calls Tryz.prog 34 #[nodeV t A cap, .slice A1 q.length c1] W (RowP (Lt W.heap.size) W t'.kind t'.text t'.cols t'.kids 0)) := fun W A1 c1 hW h1 => by
    have h := rRow_any t q A A1 cap c1 W (hv.below hW hW.size) hok.2.2 hct h1
    rw [hrr] at h
    exact h
  have hpp : IntsR w (Lt w.heap.size) (q ++ [x]) (.slice Ap (q.length + 1) cp) := by rw [← hpl, ← hqx]; exact hp
  have hcp := (ints_cap2 hpp).1
  have hpm := hp.lens
  unfold maxLen at hpm
  obtain ⟨A3, hcall4, hcut4⟩ := row42_q Ap q.length cp hcp (by omega)
  have hq4 := hcut4 _ _ _ hpp
  rw [List.take_left' rfl] at hq4
  have HQW : Hid (∀ W, Below w.heap.size w W → IntsR W (Lt W.heap.size) q (.slice A3 q.length cp)) := fun W hW => hq4.below hW hW.size
  have HCUTB : Hid (∀ W, Calls Tryz.prog 35 #[.slice Ap p.length cp] W fun e w' => e = .returned (.slice A3 q.length cp) ∧ Below W.heap.size W w') := fun W => by
    rw [hpl]
    exact (hcall4 W).mono fun e w' ⟨he, k, hk⟩ => ⟨he, by rw [hk]; exact bDn (Below.refl _ _) k⟩
  generalize hW0 : (w.alloc (Obj.cells #[.int .i64 t.kind, .string t.text, .int .i64 t.cols, .slice A t.kids.length cap] 24)).alloc (Obj.cells (boxC b.f (.slice Ak b.kids.length ck) (.slice As b.f.src.length cs)) 28) = W0
  have hz0 : W0.heap.size = w.heap.size + 1 + 1 := by rw [← hW0]; simp
  have hB0 : Below w.heap.size w W0 := by rw [← hW0]; exact bAl (bNew _ _) _
  have hb4 : MovBox W0 w.heap.size #[.int .i64 t.kind, .string t.text, .int .i64 t.cols, .slice A t.kids.length cap] := by
    rw [← hW0]
    exact (MovBox.new w _ _ _ rfl).below (bNew _ _) (by simp)
  have hb11 : MovBox W0 (w.heap.size + 1) (boxC b.f (.slice Ak b.kids.length ck) (.slice As b.f.src.length cs)) := by
    rw [← hW0]
    exact MovBox.new _ _ _ _ (by simp)
  have KB : Hid (∀ W, Below W0.heap.size W0 W → MovBox W w.heap.size #[.int .i64 t.kind, .string t.text, .int .i64 t.cols, .slice A t.kids.length cap] ∧ MovBox W (w.heap.size + 1) (boxC b.f (.slice Ak b.kids.length ck) (.slice As b.f.src.length cs)) ∧ Below w.heap.size w W) := fun W hW =>
    ⟨hb4.below hW (by omega), hb11.below hW (by omega), hB0.trans (hW.mono hB0.size)⟩
  generalize hrs : t'.kids = rs at *
  generalize vertR t b p 1 = R0 at *
  clear hv hok hct hb hcb hp hvt hvb hpi hqx hr1 hr2 hr3 hrr hpp hcp hpm hcall4 hcut4 hq4 hz0 hB0 hb4 hb11 hrs
  generalize p.length = pn at *
  clear hpl
  obtain ⟨tk, tx, tc, ts⟩ := t
  obtain ⟨f, ks⟩ := b
  obtain ⟨kind, name, size, bw, bh, bd, bx, by_, of_, src⟩ := f
  simp only [nodeV, boxV, boxC, Tree.kind, Tree.text, Tree.cols, Tree.kids, Bx.f, Bx.kids] at *
  obtain ⟨hm, hn, hbw⟩ := KB.out W0 (Below.refl _ _)
  have m0 := hm 0 _ rfl
  have m1 := hm 1 _ rfl
  have m2 := hm 2 _ rfl
  have m3 := hm 3 _ rfl
  have n0 := hn 0 _ rfl
  have n1 := hn 1 _ rfl
  have n2 := hn 2 _ rfl
  have n3 := hn 3 _ rfl
  have n4 := hn 4 _ rfl
  have n5 := hn 5 _ rfl
  have n6 := hn 6 _ rfl
  have n7 := hn 7 _ rfl
  have n8 := hn 8 _ rfl
  have n9 := hn 9 _ rfl
  have n10 := hn 10 _ rfl
  have HW_W0 := hid hbw
  clear hm hn hbw
  go_enter Tryz.func30, Tryz.ntmps30
  go_wp2_with fail
  refine (CN.out _ HW_W0.out).mono ?_
  rintro e w1 ⟨rfl, hb1⟩
  have HT1 := hid hb1
  clear hb1 hW0
  clear m0 m1 m2 m3 n0 n1 n2 n3 n4 n5 n6 n7 n8 n9 n10
  obtain ⟨hm, hn, hbw⟩ := KB.out w1 HT1.out
  have m0 := hm 0 _ rfl
  have m1 := hm 1 _ rfl
  have m2 := hm 2 _ rfl
  have m3 := hm 3 _ rfl
  have n0 := hn 0 _ rfl
  have n1 := hn 1 _ rfl
  have n2 := hn 2 _ rfl
  have n3 := hn 3 _ rfl
  have n4 := hn 4 _ rfl
  have n5 := hn 5 _ rfl
  have n6 := hn 6 _ rfl
  have n7 := hn 7 _ rfl
  have n8 := hn 8 _ rfl
  have n9 := hn 9 _ rfl
  have n10 := hn 10 _ rfl
  have HW_w1 := hid hbw
  clear hm hn hbw
  go_wp2_with fail
  refine (CB.out _ HW_w1.out).mono ?_
  rintro e w2 ⟨rfl, hb2⟩
  have HT2 := hid (bCl HT1.out hb2)
  clear hb2
  clear m0 m1 m2 m3 n0 n1 n2 n3 n4 n5 n6 n7 n8 n9 n10
  obtain ⟨hm, hn, hbw⟩ := KB.out w2 HT2.out
  have m0 := hm 0 _ rfl
  have m1 := hm 1 _ rfl
  have m2 := hm 2 _ rfl
  have m3 := hm 3 _ rfl
  have n0 := hn 0 _ rfl
  have n1 := hn 1 _ rfl
  have n2 := hn 2 _ rfl
  have n3 := hn 3 _ rfl
  have n4 := hn 4 _ rfl
  have n5 := hn 5 _ rfl
  have n6 := hn 6 _ rfl
  have n7 := hn 7 _ rfl
  have n8 := hn 8 _ rfl
  have n9 := hn 9 _ rfl
  have n10 := hn 10 _ rfl
  have HW_w2 := hid hbw
  clear hm hn hbw
  go_wp2_with fail
  refine (CP.out _ HW_w2.out).mono ?_
  rintro e w3 ⟨rfl, hb3⟩
  have HT3 := hid (bCl HT2.out hb3)
  clear hb3
  clear m0 m1 m2 m3 n0 n1 n2 n3 n4 n5 n6 n7 n8 n9 n10
  obtain ⟨hm, hn, hbw⟩ := KB.out w3 HT3.out
  have m0 := hm 0 _ rfl
  have m1 := hm 1 _ rfl
  have m2 := hm 2 _ rfl
  have m3 := hm 3 _ rfl
  have n0 := hn 0 _ rfl
  have n1 := hn 1 _ rfl
  have n2 := hn 2 _ rfl
  have n3 := hn 3 _ rfl
  have n4 := hn 4 _ rfl
  have n5 := hn 5 _ rfl
  have n6 := hn 6 _ rfl
  have n7 := hn 7 _ rfl
  have n8 := hn 8 _ rfl
  have n9 := hn 9 _ rfl
  have n10 := hn 10 _ rfl
  have HW_w3 := hid hbw
  clear hm hn hbw
  have KX : Hid (∀ W, Below w3.heap.size w3 W → MovBox W w.heap.size #[.int .i64 tk, .string tx, .int .i64 tc, .slice A ts.length cap] ∧ MovBox W (w.heap.size + 1) #[.int .i64 kind, .string name, .int .i64 size, .int .i64 bw, .int .i64 bh, .int .i64 bd, .int .i64 bx, .int .i64 by_, .slice Ak ks.length ck, .int .i64 of_, .slice As src.length cs] ∧ Below w.heap.size w W) := fun W hW => KB.out W (bCl HT3.out hW)
  have HQ4 : Hid (∀ W, Below w3.heap.size w3 W → IntsR W (Lt W.heap.size) q (.slice A3 q.length cp)) := fun W hW => HQW.out W (KX.out W hW).2.2
  have HGTW : Hid (w.heap.size < w3.heap.size) := cIn m0
  have ne0 : ¬ (w3.heap.size = w.heap.size) := Nat.ne_of_gt HGTW.out
  have HDR : Hid (Below w3.heap.size w3 w3.drew) := (Below.refl _ _).drew
  have HDZ : Hid (Below w3.heap.size w3 (w3.alloc (Obj.cells #[.int .i64 0, .string ⟨#[]⟩, .int .i64 0, .slice none 0 0] 24)).drew) := (bNew _ _).drew
  have HZN : Hid (Four_ (w3.alloc (Obj.cells #[.int .i64 0, .string ⟨#[]⟩, .int .i64 0, .slice none 0 0] 24)).drew w3.heap.size [.int .i64 0, .string ⟨#[]⟩, .int .i64 0, .slice none 0 0]) := Four_.new w3 _ _ _ rfl _ rfl
  go_upto_region 5 with fail
  go_cut [10, 11] (fun p e wx => ∃ g4 A' c', p = .pointer (some ⟨g4, 0, none⟩) ∧ e = .int .i64 0 ∧ wx.cell? ⟨g4, 3, none⟩ = some (.slice A' rs.length c') ∧ Below w3.heap.size w3 wx)
  case first =>
    go_region_held3 (fun w' => w'.cell? ⟨w.heap.size, 0, none⟩ = some (.int .i64 tk) ∧ w'.cell? ⟨w.heap.size, 1, none⟩ = some (.string tx) ∧ w'.cell? ⟨w.heap.size, 2, none⟩ = some (.int .i64 tc) ∧ w'.cell? ⟨w.heap.size, 3, none⟩ = some (.slice A ts.length cap)) (go_keep) (first
      | (go_at_call 35; (with_reducible refine (HCUTB.out w3.drew).mono ?_); rintro e w1 ⟨rfl, hb1⟩; have HX1 : Hid (Below w3.heap.size w3 w1) := bDr hb1; clear hb1; obtain ⟨hm, hn, hbw⟩ := KX.out w1 HX1.out; have m0 := hm 0 _ rfl; have m1 := hm 1 _ rfl; have m2 := hm 2 _ rfl; have m3 := hm 3 _ rfl; clear hm hn hbw)
      | (go_at_call 35; (with_reducible refine (HCUTB.out _).mono ?_); rintro e w1 ⟨rfl, hb1⟩; have HX1 := hid (bCl HDZ.out hb1); have HZ1 := hid (HZN.out.keep hb1); obtain ⟨z0, z1, z2, z3, y0, y1, y2, y3⟩ := HZ1.out.facts; clear hb1; obtain ⟨hm, hn, hbw⟩ := KX.out w1 HX1.out; have m0 := hm 0 _ rfl; have m1 := hm 1 _ rfl; have m2 := hm 2 _ rfl; have m3 := hm 3 _ rfl; clear hm hn hbw)
      | (go_at_call 34; (with_reducible refine (HROWQ.out w1 _ _ (KX.out _ HX1.out).2.2 (HQ4.out _ HX1.out)).mono ?_); rintro e w2 ⟨v2, rfl, hr2, hb2⟩; obtain ⟨A2, c2, rfl⟩ := hr2.form; have HX2 := hid (bCl HX1.out hb2); have HZ2 := hid (HZ1.out.keep hb2); obtain ⟨z0, z1, z2, z3, y0, y1, y2, y3⟩ := HZ2.out.facts; clear hr2 hb2; obtain ⟨hm, hn, hbw⟩ := KX.out w2 HX2.out; have m0 := hm 0 _ rfl; have m1 := hm 1 _ rfl; have m2 := hm 2 _ rfl; have m3 := hm 3 _ rfl; clear hm hn hbw)
      | (go_at_call 34; (with_reducible refine (HROWQ.out w1 _ _ (KX.out _ HX1.out).2.2 (HQ4.out _ HX1.out)).mono ?_); rintro e w2 ⟨v2, rfl, hr2, hb2⟩; obtain ⟨A2, c2, rfl⟩ := hr2.form; have HX2 := hid (bCl HX1.out hb2); clear hr2 hb2; obtain ⟨hm, hn, hbw⟩ := KX.out w2 HX2.out; have m0 := hm 0 _ rfl; have m1 := hm 1 _ rfl; have m2 := hm 2 _ rfl; have m3 := hm 3 _ rfl; clear hm hn hbw)
      | (go_at_call 34; (with_reducible refine (HROWQ.out (w1.alloc (Obj.cells #[.int .i64 0, .string ⟨#[]⟩, .int .i64 0, .slice none 0 0] 24)) _ _ (KX.out _ (bAl HX1.out _)).2.2 (HQ4.out _ (bAl HX1.out _))).mono ?_); rintro e w2 ⟨v2, rfl, hr2, hb2⟩; obtain ⟨A2, c2, rfl⟩ := hr2.form; have HX2 := hid (bCl (bAl HX1.out _) hb2); have HZ2 := hid ((Four_.new w1 _ 24 _ rfl [.int .i64 0, .string ⟨#[]⟩, .int .i64 0, .slice none 0 0] rfl).keep hb2); have HXL := hid HX1.out.size; have ne1 : ¬ (w1.heap.size = w.heap.size) := (Nat.ne_of_gt (Nat.lt_of_lt_of_le HGTW.out HXL.out)); obtain ⟨z0, z1, z2, z3, y0, y1, y2, y3⟩ := HZ2.out.facts; clear hr2 hb2; obtain ⟨hm, hn, hbw⟩ := KX.out w2 HX2.out; have m0 := hm 0 _ rfl; have m1 := hm 1 _ rfl; have m2 := hm 2 _ rfl; have m3 := hm 3 _ rfl; clear hm hn hbw))
    all_goals
      go_wp2_with fail
      go_meet
      try dsimp only [Tree.kind, Tree.text, Tree.cols, Tree.kids]
      first
        | ((with_reducible refine ⟨_, A2, c2, rfl, rfl, ?_, bAl HX2.out _⟩); exact cNew _ _ _ _ _ rfl)
        | (with_reducible exact ⟨_, _, _, rfl, rfl, (HZ2.out.set _ _ _ _ (Nat.le_refl _) HX2.out).1, (HZ2.out.set _ _ _ _ (Nat.le_refl _) HX2.out).2⟩)
        | (with_reducible exact ⟨_, _, _, rfl, rfl, (HZ2.out.set _ _ _ _ HXL.out HX2.out).1, (HZ2.out.set _ _ _ _ HXL.out HX2.out).2⟩)
  case rest =>
    obtain ⟨g4, A5, c5, rfl, rfl, hc4, hbx⟩ := hcut
    have HBX := hid hbx
    have HC4 := hid hc4
    clear hbx hc4
    clear m0 m1 m2 m3 n0 n1 n2 n3 n4 n5 n6 n7 n8 n9 n10
    obtain ⟨hm, hn, hbw⟩ := KX.out wc HBX.out
    have m0 := hm 0 _ rfl
    have m1 := hm 1 _ rfl
    have m2 := hm 2 _ rfl
    have m3 := hm 3 _ rfl
    have n0 := hn 0 _ rfl
    have n1 := hn 1 _ rfl
    have n2 := hn 2 _ rfl
    have n3 := hn 3 _ rfl
    have n4 := hn 4 _ rfl
    have n5 := hn 5 _ rfl
    have n6 := hn 6 _ rfl
    have n7 := hn 7 _ rfl
    have n8 := hn 8 _ rfl
    have n9 := hn 9 _ rfl
    have n10 := hn 10 _ rfl
    have HW_wc := hid hbw
    clear hm hn hbw
    go_wp2_with fail
    refine (CVT.out _ HW_wc.out).mono ?_
    rintro e w7 ⟨hb7, v7, rfl, hi7⟩
    obtain ⟨A7, c7, rfl⟩ := hi7.form
    have HB7 := hid (bCl HW_wc.out hb7)
    have HI7 := hid hi7
    have HSZ := hid HW_wc.out.size
    clear hb7 hi7
    go_wp2_with fail
    go_ret2
    exact ⟨HB7.out, _, rfl, HI7.out.keep (fun _ _ => rfl) (fun k hk => ⟨Nat.le_trans HSZ.out hk.1, hk.2⟩)⟩
set_option maxHeartbeats 8000000 in
theorem rmove5_any (t : Tree) (b : Bx) (p : List Int) (A Ak As Ap : Option Addr) (cap ck cs cp : Nat) (w : World) (hv : SliceR treeE w (Lt w.heap.size) t.kids (.slice A t.kids.length cap)) (hok : NodeOk t) (hct : countS t ≤ 900000) (hb : BoxIn w b Ak As ck cs) (hcb : cntB b ≤ 1000000) (hp : IntsR w (Lt w.heap.size) p (.slice Ap p.length cp)) (hvt : validS t = true) (hvb : validB b = true) (hpi : posIn t p = true) :
    Calls Tryz.prog 30 #[nodeV t A cap, boxV b Ak As ck cs, .slice Ap p.length cp, .int .i64 5] w (PosRes w (vertR t b p (-1))) := by
  obtain ⟨q, x, hqx⟩ := posIn_ne hpi
  obtain ⟨t', hr1, hr2, hr3⟩ := posIn_row t q x (by rw [← hqx]; exact hpi)
  have hrr := rowRes_rowS hvt hr1
  have hpl : p.length = q.length + 1 := by rw [hqx]; simp
  have CN : Hid (∀ W, Below w.heap.size w W → Calls Tryz.prog 31 #[nodeV t A cap] W fun e w' => e = .returned (.bool (validS t)) ∧ Below W.heap.size W w') := fun W hW => valid_any t A cap W (hv.below hW hW.size) hok.2.2 (by omega)
  have CB : Hid (∀ W, Below w.heap.size w W → Calls Tryz.prog 41 #[boxV b Ak As ck cs] W fun e w' => e = .returned (.bool (validB b)) ∧ Below W.heap.size W w') := fun W hW => bvalid28_any b Ak As ck cs W hb.ok.name (hb.below hW).src (hb.below hW).kids hcb
  have CP : Hid (∀ W, Below w.heap.size w W → Calls Tryz.prog 42 #[nodeV t A cap, .slice Ap p.length cp] W fun e w' => e = .returned (.bool (validS t && posIn t p)) ∧ Below W.heap.size W w') := fun W hW => rValid_any t p A cap (.slice Ap p.length cp) W (hv.below hW hW.size) hok.2.2 hct (hp.below hW hW.size)
  rw [hvt] at CN
  rw [hvb] at CB
  rw [hvt, hpi] at CP
  have HIS : Hid ((idxS (allS [] t) p).isSome = true) := by show _ = _; rw [idxS_isSome]; exact hpi
  have CVT : Hid (∀ W, Below w.heap.size w W → Calls Tryz.prog 67 #[nodeV t A cap, boxV b Ak As ck cs, .slice Ap p.length cp, .int .i64 (-1)] W (PosRes W (vertR t b p (-1)))) := fun W hW => by
    have hp2 := hp.below hW hW.size
    have h := rvert_any t b q x (-1) A Ak As Ap cap ck cs cp p.length W (hv.below hW hW.size) hok.2.2 hct (hb.below hW) hcb hpl (by rw [← hqx]; exact hp2) hvt hvb (by rw [← hqx]; exact hpi) (by decide)
    rw [← hqx] at h
    exact h
  have HROWQ : Hid (∀ W A1 c1, Below w.heap.size w W → IntsR W (Lt W.heap.size) q (.slice A1 q.length c1) → Calls Tryz.prog 34 #[nodeV t A cap, .slice A1 q.length c1] W (RowP (Lt W.heap.size) W t'.kind t'.text t'.cols t'.kids 0)) := fun W A1 c1 hW h1 => by
    have h := rRow_any t q A A1 cap c1 W (hv.below hW hW.size) hok.2.2 hct h1
    rw [hrr] at h
    exact h
  have hpp : IntsR w (Lt w.heap.size) (q ++ [x]) (.slice Ap (q.length + 1) cp) := by rw [← hpl, ← hqx]; exact hp
  have hcp := (ints_cap2 hpp).1
  have hpm := hp.lens
  unfold maxLen at hpm
  obtain ⟨A3, hcall4, hcut4⟩ := row42_q Ap q.length cp hcp (by omega)
  have hq4 := hcut4 _ _ _ hpp
  rw [List.take_left' rfl] at hq4
  have HQW : Hid (∀ W, Below w.heap.size w W → IntsR W (Lt W.heap.size) q (.slice A3 q.length cp)) := fun W hW => hq4.below hW hW.size
  have HCUTB : Hid (∀ W, Calls Tryz.prog 35 #[.slice Ap p.length cp] W fun e w' => e = .returned (.slice A3 q.length cp) ∧ Below W.heap.size W w') := fun W => by
    rw [hpl]
    exact (hcall4 W).mono fun e w' ⟨he, k, hk⟩ => ⟨he, by rw [hk]; exact bDn (Below.refl _ _) k⟩
  generalize hW0 : (w.alloc (Obj.cells #[.int .i64 t.kind, .string t.text, .int .i64 t.cols, .slice A t.kids.length cap] 24)).alloc (Obj.cells (boxC b.f (.slice Ak b.kids.length ck) (.slice As b.f.src.length cs)) 28) = W0
  have hz0 : W0.heap.size = w.heap.size + 1 + 1 := by rw [← hW0]; simp
  have hB0 : Below w.heap.size w W0 := by rw [← hW0]; exact bAl (bNew _ _) _
  have hb4 : MovBox W0 w.heap.size #[.int .i64 t.kind, .string t.text, .int .i64 t.cols, .slice A t.kids.length cap] := by
    rw [← hW0]
    exact (MovBox.new w _ _ _ rfl).below (bNew _ _) (by simp)
  have hb11 : MovBox W0 (w.heap.size + 1) (boxC b.f (.slice Ak b.kids.length ck) (.slice As b.f.src.length cs)) := by
    rw [← hW0]
    exact MovBox.new _ _ _ _ (by simp)
  have KB : Hid (∀ W, Below W0.heap.size W0 W → MovBox W w.heap.size #[.int .i64 t.kind, .string t.text, .int .i64 t.cols, .slice A t.kids.length cap] ∧ MovBox W (w.heap.size + 1) (boxC b.f (.slice Ak b.kids.length ck) (.slice As b.f.src.length cs)) ∧ Below w.heap.size w W) := fun W hW =>
    ⟨hb4.below hW (by omega), hb11.below hW (by omega), hB0.trans (hW.mono hB0.size)⟩
  generalize hrs : t'.kids = rs at *
  generalize vertR t b p (-1) = R0 at *
  clear hv hok hct hb hcb hp hvt hvb hpi hqx hr1 hr2 hr3 hrr hpp hcp hpm hcall4 hcut4 hq4 hz0 hB0 hb4 hb11 hrs
  generalize p.length = pn at *
  clear hpl
  obtain ⟨tk, tx, tc, ts⟩ := t
  obtain ⟨f, ks⟩ := b
  obtain ⟨kind, name, size, bw, bh, bd, bx, by_, of_, src⟩ := f
  simp only [nodeV, boxV, boxC, Tree.kind, Tree.text, Tree.cols, Tree.kids, Bx.f, Bx.kids] at *
  obtain ⟨hm, hn, hbw⟩ := KB.out W0 (Below.refl _ _)
  have m0 := hm 0 _ rfl
  have m1 := hm 1 _ rfl
  have m2 := hm 2 _ rfl
  have m3 := hm 3 _ rfl
  have n0 := hn 0 _ rfl
  have n1 := hn 1 _ rfl
  have n2 := hn 2 _ rfl
  have n3 := hn 3 _ rfl
  have n4 := hn 4 _ rfl
  have n5 := hn 5 _ rfl
  have n6 := hn 6 _ rfl
  have n7 := hn 7 _ rfl
  have n8 := hn 8 _ rfl
  have n9 := hn 9 _ rfl
  have n10 := hn 10 _ rfl
  have HW_W0 := hid hbw
  clear hm hn hbw
  go_enter Tryz.func30, Tryz.ntmps30
  go_wp2_with fail
  refine (CN.out _ HW_W0.out).mono ?_
  rintro e w1 ⟨rfl, hb1⟩
  have HT1 := hid hb1
  clear hb1 hW0
  clear m0 m1 m2 m3 n0 n1 n2 n3 n4 n5 n6 n7 n8 n9 n10
  obtain ⟨hm, hn, hbw⟩ := KB.out w1 HT1.out
  have m0 := hm 0 _ rfl
  have m1 := hm 1 _ rfl
  have m2 := hm 2 _ rfl
  have m3 := hm 3 _ rfl
  have n0 := hn 0 _ rfl
  have n1 := hn 1 _ rfl
  have n2 := hn 2 _ rfl
  have n3 := hn 3 _ rfl
  have n4 := hn 4 _ rfl
  have n5 := hn 5 _ rfl
  have n6 := hn 6 _ rfl
  have n7 := hn 7 _ rfl
  have n8 := hn 8 _ rfl
  have n9 := hn 9 _ rfl
  have n10 := hn 10 _ rfl
  have HW_w1 := hid hbw
  clear hm hn hbw
  go_wp2_with fail
  refine (CB.out _ HW_w1.out).mono ?_
  rintro e w2 ⟨rfl, hb2⟩
  have HT2 := hid (bCl HT1.out hb2)
  clear hb2
  clear m0 m1 m2 m3 n0 n1 n2 n3 n4 n5 n6 n7 n8 n9 n10
  obtain ⟨hm, hn, hbw⟩ := KB.out w2 HT2.out
  have m0 := hm 0 _ rfl
  have m1 := hm 1 _ rfl
  have m2 := hm 2 _ rfl
  have m3 := hm 3 _ rfl
  have n0 := hn 0 _ rfl
  have n1 := hn 1 _ rfl
  have n2 := hn 2 _ rfl
  have n3 := hn 3 _ rfl
  have n4 := hn 4 _ rfl
  have n5 := hn 5 _ rfl
  have n6 := hn 6 _ rfl
  have n7 := hn 7 _ rfl
  have n8 := hn 8 _ rfl
  have n9 := hn 9 _ rfl
  have n10 := hn 10 _ rfl
  have HW_w2 := hid hbw
  clear hm hn hbw
  go_wp2_with fail
  refine (CP.out _ HW_w2.out).mono ?_
  rintro e w3 ⟨rfl, hb3⟩
  have HT3 := hid (bCl HT2.out hb3)
  clear hb3
  clear m0 m1 m2 m3 n0 n1 n2 n3 n4 n5 n6 n7 n8 n9 n10
  obtain ⟨hm, hn, hbw⟩ := KB.out w3 HT3.out
  have m0 := hm 0 _ rfl
  have m1 := hm 1 _ rfl
  have m2 := hm 2 _ rfl
  have m3 := hm 3 _ rfl
  have n0 := hn 0 _ rfl
  have n1 := hn 1 _ rfl
  have n2 := hn 2 _ rfl
  have n3 := hn 3 _ rfl
  have n4 := hn 4 _ rfl
  have n5 := hn 5 _ rfl
  have n6 := hn 6 _ rfl
  have n7 := hn 7 _ rfl
  have n8 := hn 8 _ rfl
  have n9 := hn 9 _ rfl
  have n10 := hn 10 _ rfl
  have HW_w3 := hid hbw
  clear hm hn hbw
  have KX : Hid (∀ W, Below w3.heap.size w3 W → MovBox W w.heap.size #[.int .i64 tk, .string tx, .int .i64 tc, .slice A ts.length cap] ∧ MovBox W (w.heap.size + 1) #[.int .i64 kind, .string name, .int .i64 size, .int .i64 bw, .int .i64 bh, .int .i64 bd, .int .i64 bx, .int .i64 by_, .slice Ak ks.length ck, .int .i64 of_, .slice As src.length cs] ∧ Below w.heap.size w W) := fun W hW => KB.out W (bCl HT3.out hW)
  have HQ4 : Hid (∀ W, Below w3.heap.size w3 W → IntsR W (Lt W.heap.size) q (.slice A3 q.length cp)) := fun W hW => HQW.out W (KX.out W hW).2.2
  have HGTW : Hid (w.heap.size < w3.heap.size) := cIn m0
  have ne0 : ¬ (w3.heap.size = w.heap.size) := Nat.ne_of_gt HGTW.out
  have HDR : Hid (Below w3.heap.size w3 w3.drew) := (Below.refl _ _).drew
  have HDZ : Hid (Below w3.heap.size w3 (w3.alloc (Obj.cells #[.int .i64 0, .string ⟨#[]⟩, .int .i64 0, .slice none 0 0] 24)).drew) := (bNew _ _).drew
  have HZN : Hid (Four_ (w3.alloc (Obj.cells #[.int .i64 0, .string ⟨#[]⟩, .int .i64 0, .slice none 0 0] 24)).drew w3.heap.size [.int .i64 0, .string ⟨#[]⟩, .int .i64 0, .slice none 0 0]) := Four_.new w3 _ _ _ rfl _ rfl
  go_upto_region 5 with fail
  go_cut [10, 11] (fun p e wx => ∃ g4 A' c', p = .pointer (some ⟨g4, 0, none⟩) ∧ e = .int .i64 0 ∧ wx.cell? ⟨g4, 3, none⟩ = some (.slice A' rs.length c') ∧ Below w3.heap.size w3 wx)
  case first =>
    go_region_held3 (fun w' => w'.cell? ⟨w.heap.size, 0, none⟩ = some (.int .i64 tk) ∧ w'.cell? ⟨w.heap.size, 1, none⟩ = some (.string tx) ∧ w'.cell? ⟨w.heap.size, 2, none⟩ = some (.int .i64 tc) ∧ w'.cell? ⟨w.heap.size, 3, none⟩ = some (.slice A ts.length cap)) (go_keep) (first
      | (go_at_call 35; (with_reducible refine (HCUTB.out w3.drew).mono ?_); rintro e w1 ⟨rfl, hb1⟩; have HX1 : Hid (Below w3.heap.size w3 w1) := bDr hb1; clear hb1; obtain ⟨hm, hn, hbw⟩ := KX.out w1 HX1.out; have m0 := hm 0 _ rfl; have m1 := hm 1 _ rfl; have m2 := hm 2 _ rfl; have m3 := hm 3 _ rfl; clear hm hn hbw)
      | (go_at_call 35; (with_reducible refine (HCUTB.out _).mono ?_); rintro e w1 ⟨rfl, hb1⟩; have HX1 := hid (bCl HDZ.out hb1); have HZ1 := hid (HZN.out.keep hb1); obtain ⟨z0, z1, z2, z3, y0, y1, y2, y3⟩ := HZ1.out.facts; clear hb1; obtain ⟨hm, hn, hbw⟩ := KX.out w1 HX1.out; have m0 := hm 0 _ rfl; have m1 := hm 1 _ rfl; have m2 := hm 2 _ rfl; have m3 := hm 3 _ rfl; clear hm hn hbw)
      | (go_at_call 34; (with_reducible refine (HROWQ.out w1 _ _ (KX.out _ HX1.out).2.2 (HQ4.out _ HX1.out)).mono ?_); rintro e w2 ⟨v2, rfl, hr2, hb2⟩; obtain ⟨A2, c2, rfl⟩ := hr2.form; have HX2 := hid (bCl HX1.out hb2); have HZ2 := hid (HZ1.out.keep hb2); obtain ⟨z0, z1, z2, z3, y0, y1, y2, y3⟩ := HZ2.out.facts; clear hr2 hb2; obtain ⟨hm, hn, hbw⟩ := KX.out w2 HX2.out; have m0 := hm 0 _ rfl; have m1 := hm 1 _ rfl; have m2 := hm 2 _ rfl; have m3 := hm 3 _ rfl; clear hm hn hbw)
      | (go_at_call 34; (with_reducible refine (HROWQ.out w1 _ _ (KX.out _ HX1.out).2.2 (HQ4.out _ HX1.out)).mono ?_); rintro e w2 ⟨v2, rfl, hr2, hb2⟩; obtain ⟨A2, c2, rfl⟩ := hr2.form; have HX2 := hid (bCl HX1.out hb2); clear hr2 hb2; obtain ⟨hm, hn, hbw⟩ := KX.out w2 HX2.out; have m0 := hm 0 _ rfl; have m1 := hm 1 _ rfl; have m2 := hm 2 _ rfl; have m3 := hm 3 _ rfl; clear hm hn hbw)
      | (go_at_call 34; (with_reducible refine (HROWQ.out (w1.alloc (Obj.cells #[.int .i64 0, .string ⟨#[]⟩, .int .i64 0, .slice none 0 0] 24)) _ _ (KX.out _ (bAl HX1.out _)).2.2 (HQ4.out _ (bAl HX1.out _))).mono ?_); rintro e w2 ⟨v2, rfl, hr2, hb2⟩; obtain ⟨A2, c2, rfl⟩ := hr2.form; have HX2 := hid (bCl (bAl HX1.out _) hb2); have HZ2 := hid ((Four_.new w1 _ 24 _ rfl [.int .i64 0, .string ⟨#[]⟩, .int .i64 0, .slice none 0 0] rfl).keep hb2); have HXL := hid HX1.out.size; have ne1 : ¬ (w1.heap.size = w.heap.size) := (Nat.ne_of_gt (Nat.lt_of_lt_of_le HGTW.out HXL.out)); obtain ⟨z0, z1, z2, z3, y0, y1, y2, y3⟩ := HZ2.out.facts; clear hr2 hb2; obtain ⟨hm, hn, hbw⟩ := KX.out w2 HX2.out; have m0 := hm 0 _ rfl; have m1 := hm 1 _ rfl; have m2 := hm 2 _ rfl; have m3 := hm 3 _ rfl; clear hm hn hbw))
    all_goals
      go_wp2_with fail
      go_meet
      try dsimp only [Tree.kind, Tree.text, Tree.cols, Tree.kids]
      first
        | ((with_reducible refine ⟨_, A2, c2, rfl, rfl, ?_, bAl HX2.out _⟩); exact cNew _ _ _ _ _ rfl)
        | (with_reducible exact ⟨_, _, _, rfl, rfl, (HZ2.out.set _ _ _ _ (Nat.le_refl _) HX2.out).1, (HZ2.out.set _ _ _ _ (Nat.le_refl _) HX2.out).2⟩)
        | (with_reducible exact ⟨_, _, _, rfl, rfl, (HZ2.out.set _ _ _ _ HXL.out HX2.out).1, (HZ2.out.set _ _ _ _ HXL.out HX2.out).2⟩)
  case rest =>
    obtain ⟨g4, A5, c5, rfl, rfl, hc4, hbx⟩ := hcut
    have HBX := hid hbx
    have HC4 := hid hc4
    clear hbx hc4
    clear m0 m1 m2 m3 n0 n1 n2 n3 n4 n5 n6 n7 n8 n9 n10
    obtain ⟨hm, hn, hbw⟩ := KX.out wc HBX.out
    have m0 := hm 0 _ rfl
    have m1 := hm 1 _ rfl
    have m2 := hm 2 _ rfl
    have m3 := hm 3 _ rfl
    have n0 := hn 0 _ rfl
    have n1 := hn 1 _ rfl
    have n2 := hn 2 _ rfl
    have n3 := hn 3 _ rfl
    have n4 := hn 4 _ rfl
    have n5 := hn 5 _ rfl
    have n6 := hn 6 _ rfl
    have n7 := hn 7 _ rfl
    have n8 := hn 8 _ rfl
    have n9 := hn 9 _ rfl
    have n10 := hn 10 _ rfl
    have HW_wc := hid hbw
    clear hm hn hbw
    go_wp2_with fail
    refine (CVT.out _ HW_wc.out).mono ?_
    rintro e w7 ⟨hb7, v7, rfl, hi7⟩
    obtain ⟨A7, c7, rfl⟩ := hi7.form
    have HB7 := hid (bCl HW_wc.out hb7)
    have HI7 := hid hi7
    have HSZ := hid HW_wc.out.size
    clear hb7 hi7
    go_wp2_with fail
    go_ret2
    exact ⟨HB7.out, _, rfl, HI7.out.keep (fun _ _ => rfl) (fun k hk => ⟨Nat.le_trans HSZ.out hk.1, hk.2⟩)⟩
end Go.Proofs.YtmahiejfniaahaaGreatDoor
