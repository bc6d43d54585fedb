/- ref42.Move at valid arguments: home. Written by wip/genr42.py. -/
import Derived.Test.YtmahiejfniaahaaGreatDoorMov42v
set_option linter.unusedVariables false
set_option linter.unusedSimpArgs false
set_option maxRecDepth 100000
namespace Go.Proofs.YtmahiejfniaahaaGreatDoor
open Go.RowKit
set_option maxHeartbeats 8000000 in
theorem rmove2_any (t : Tree) (b : Bx) (p : List Int) (A Ak As Ap : Option Addr) (cap ck cs cp : Nat) (w : World) (hv : SliceR treeE w (Lt w.heap.size) t.kids (.slice A t.kids.length cap)) (hok : NodeOk t) (hct : countS t ≤ 900000) (hb : BoxIn w b Ak As ck cs) (hcb : cntB b ≤ 1000000) (hp : IntsR w (Lt w.heap.size) p (.slice Ap p.length cp)) (hvt : validS t = true) (hvb : validB b = true) (hpi : posIn t p = true) :
    Calls Tryz.prog 30 #[nodeV t A cap, boxV b Ak As ck cs, .slice Ap p.length cp, .int .i64 2] w (PosRes w (moveS t p 2)) := by
  obtain ⟨q, x, hqx⟩ := posIn_ne hpi
  obtain ⟨t', hr1, hr2, hr3⟩ := posIn_row t q x (by rw [← hqx]; exact hpi)
  have hrr := rowRes_rowS hvt hr1
  have hpl : p.length = q.length + 1 := by rw [hqx]; simp
  have CN : Hid (∀ W, Below w.heap.size w W → Calls Tryz.prog 31 #[nodeV t A cap] W fun e w' => e = .returned (.bool (validS t)) ∧ Below W.heap.size W w') := fun W hW => valid_any t A cap W (hv.below hW hW.size) hok.2.2 (by omega)
  have CB : Hid (∀ W, Below w.heap.size w W → Calls Tryz.prog 41 #[boxV b Ak As ck cs] W fun e w' => e = .returned (.bool (validB b)) ∧ Below W.heap.size W w') := fun W hW => bvalid28_any b Ak As ck cs W hb.ok.name (hb.below hW).src (hb.below hW).kids hcb
  have CP : Hid (∀ W, Below w.heap.size w W → Calls Tryz.prog 42 #[nodeV t A cap, .slice Ap p.length cp] W fun e w' => e = .returned (.bool (validS t && posIn t p)) ∧ Below W.heap.size W w') := fun W hW => rValid_any t p A cap (.slice Ap p.length cp) W (hv.below hW hW.size) hok.2.2 hct (hp.below hW hW.size)
  rw [hvt] at CN
  rw [hvb] at CB
  rw [hvt, hpi] at CP
  have HIS : Hid ((idxS (allS [] t) p).isSome = true) := by show _ = _; rw [idxS_isSome]; exact hpi
  have hql : q.length ≤ 1000000 := by have h := (posIn_bd t _ hpi).1; have h3 := (valid_count hvt).2.2.2; omega
  have hrs0 : t'.kids.length ≤ 1000000 := by have h := (rowS_ok (w := w) (S := Lt w.heap.size) t q t' hr1 hok ⟨_, hv⟩).2; have h2 := kids_cnt t'; omega
  have HRE : Hid (moveS t p 2 = (q ++ [0], 0)) := by
    show _ = _
    rw [hqx] at hpi ⊢
    rw [moveS, if_neg (by simp [hvt]), if_neg (by simp [hpi]), if_neg (by omega), if_neg (by omega)]
    simp [rowLen, hr1]
  have HROWQ : Hid (∀ W A1 c1, Below w.heap.size w W → IntsR W (Lt W.heap.size) q (.slice A1 q.length c1) → Calls Tryz.prog 34 #[nodeV t A cap, .slice A1 q.length c1] W (RowP (Lt W.heap.size) W t'.kind t'.text t'.cols t'.kids 0)) := fun W A1 c1 hW h1 => by
    have h := rRow_any t q A A1 cap c1 W (hv.below hW hW.size) hok.2.2 hct h1
    rw [hrr] at h
    exact h
  have hpp : IntsR w (Lt w.heap.size) (q ++ [x]) (.slice Ap (q.length + 1) cp) := by rw [← hpl, ← hqx]; exact hp
  have hcp := (ints_cap2 hpp).1
  have hpm := hp.lens
  unfold maxLen at hpm
  obtain ⟨A3, hcall4, hcut4⟩ := row42_q Ap q.length cp hcp (by omega)
  have hq4 := hcut4 _ _ _ hpp
  rw [List.take_left' rfl] at hq4
  have HQW : Hid (∀ W, Below w.heap.size w W → IntsR W (Lt W.heap.size) q (.slice A3 q.length cp)) := fun W hW => hq4.below hW hW.size
  have HCUTB : Hid (∀ W, Calls Tryz.prog 35 #[.slice Ap p.length cp] W fun e w' => e = .returned (.slice A3 q.length cp) ∧ Below W.heap.size W w') := fun W => by
    rw [hpl]
    exact (hcall4 W).mono fun e w' ⟨he, k, hk⟩ => ⟨he, by rw [hk]; exact bDn (Below.refl _ _) k⟩
  generalize hW0 : (w.alloc (Obj.cells #[.int .i64 t.kind, .string t.text, .int .i64 t.cols, .slice A t.kids.length cap] 24)).alloc (Obj.cells (boxC b.f (.slice Ak b.kids.length ck) (.slice As b.f.src.length cs)) 28) = W0
  have hz0 : W0.heap.size = w.heap.size + 1 + 1 := by rw [← hW0]; simp
  have hB0 : Below w.heap.size w W0 := by rw [← hW0]; exact bAl (bNew _ _) _
  have hb4 : MovBox W0 w.heap.size #[.int .i64 t.kind, .string t.text, .int .i64 t.cols, .slice A t.kids.length cap] := by
    rw [← hW0]
    exact (MovBox.new w _ _ _ rfl).below (bNew _ _) (by simp)
  have hb11 : MovBox W0 (w.heap.size + 1) (boxC b.f (.slice Ak b.kids.length ck) (.slice As b.f.src.length cs)) := by
    rw [← hW0]
    exact MovBox.new _ _ _ _ (by simp)
  have KB : Hid (∀ W, Below W0.heap.size W0 W → MovBox W w.heap.size #[.int .i64 t.kind, .string t.text, .int .i64 t.cols, .slice A t.kids.length cap] ∧ MovBox W (w.heap.size + 1) (boxC b.f (.slice Ak b.kids.length ck) (.slice As b.f.src.length cs)) ∧ Below w.heap.size w W) := fun W hW =>
    ⟨hb4.below hW (by omega), hb11.below hW (by omega), hB0.trans (hW.mono hB0.size)⟩
  generalize hrs : t'.kids = rs at *
  generalize moveS t p 2 = R0 at *
  clear hv hok hct hb hcb hp hvt hvb hpi hqx hr1 hr2 hr3 hrr hpp hcp hpm hcall4 hcut4 hq4 hz0 hB0 hb4 hb11 hrs
  generalize p.length = pn at *
  clear hpl
  obtain ⟨tk, tx, tc, ts⟩ := t
  obtain ⟨f, ks⟩ := b
  obtain ⟨kind, name, size, bw, bh, bd, bx, by_, of_, src⟩ := f
  simp only [nodeV, boxV, boxC, Tree.kind, Tree.text, Tree.cols, Tree.kids, Bx.f, Bx.kids] at *
  obtain ⟨hm, hn, hbw⟩ := KB.out W0 (Below.refl _ _)
  have m0 := hm 0 _ rfl
  have m1 := hm 1 _ rfl
  have m2 := hm 2 _ rfl
  have m3 := hm 3 _ rfl
  have n0 := hn 0 _ rfl
  have n1 := hn 1 _ rfl
  have n2 := hn 2 _ rfl
  have n3 := hn 3 _ rfl
  have n4 := hn 4 _ rfl
  have n5 := hn 5 _ rfl
  have n6 := hn 6 _ rfl
  have n7 := hn 7 _ rfl
  have n8 := hn 8 _ rfl
  have n9 := hn 9 _ rfl
  have n10 := hn 10 _ rfl
  have HW_W0 := hid hbw
  clear hm hn hbw
  go_enter Tryz.func30, Tryz.ntmps30
  go_wp2_with fail
  refine (CN.out _ HW_W0.out).mono ?_
  rintro e w1 ⟨rfl, hb1⟩
  have HT1 := hid hb1
  clear hb1 hW0
  clear m0 m1 m2 m3 n0 n1 n2 n3 n4 n5 n6 n7 n8 n9 n10
  obtain ⟨hm, hn, hbw⟩ := KB.out w1 HT1.out
  have m0 := hm 0 _ rfl
  have m1 := hm 1 _ rfl
  have m2 := hm 2 _ rfl
  have m3 := hm 3 _ rfl
  have n0 := hn 0 _ rfl
  have n1 := hn 1 _ rfl
  have n2 := hn 2 _ rfl
  have n3 := hn 3 _ rfl
  have n4 := hn 4 _ rfl
  have n5 := hn 5 _ rfl
  have n6 := hn 6 _ rfl
  have n7 := hn 7 _ rfl
  have n8 := hn 8 _ rfl
  have n9 := hn 9 _ rfl
  have n10 := hn 10 _ rfl
  have HW_w1 := hid hbw
  clear hm hn hbw
  go_wp2_with fail
  refine (CB.out _ HW_w1.out).mono ?_
  rintro e w2 ⟨rfl, hb2⟩
  have HT2 := hid (bCl HT1.out hb2)
  clear hb2
  clear m0 m1 m2 m3 n0 n1 n2 n3 n4 n5 n6 n7 n8 n9 n10
  obtain ⟨hm, hn, hbw⟩ := KB.out w2 HT2.out
  have m0 := hm 0 _ rfl
  have m1 := hm 1 _ rfl
  have m2 := hm 2 _ rfl
  have m3 := hm 3 _ rfl
  have n0 := hn 0 _ rfl
  have n1 := hn 1 _ rfl
  have n2 := hn 2 _ rfl
  have n3 := hn 3 _ rfl
  have n4 := hn 4 _ rfl
  have n5 := hn 5 _ rfl
  have n6 := hn 6 _ rfl
  have n7 := hn 7 _ rfl
  have n8 := hn 8 _ rfl
  have n9 := hn 9 _ rfl
  have n10 := hn 10 _ rfl
  have HW_w2 := hid hbw
  clear hm hn hbw
  go_wp2_with fail
  refine (CP.out _ HW_w2.out).mono ?_
  rintro e w3 ⟨rfl, hb3⟩
  have HT3 := hid (bCl HT2.out hb3)
  clear hb3
  clear m0 m1 m2 m3 n0 n1 n2 n3 n4 n5 n6 n7 n8 n9 n10
  obtain ⟨hm, hn, hbw⟩ := KB.out w3 HT3.out
  have m0 := hm 0 _ rfl
  have m1 := hm 1 _ rfl
  have m2 := hm 2 _ rfl
  have m3 := hm 3 _ rfl
  have n0 := hn 0 _ rfl
  have n1 := hn 1 _ rfl
  have n2 := hn 2 _ rfl
  have n3 := hn 3 _ rfl
  have n4 := hn 4 _ rfl
  have n5 := hn 5 _ rfl
  have n6 := hn 6 _ rfl
  have n7 := hn 7 _ rfl
  have n8 := hn 8 _ rfl
  have n9 := hn 9 _ rfl
  have n10 := hn 10 _ rfl
  have HW_w3 := hid hbw
  clear hm hn hbw
  have KX : Hid (∀ W, Below w3.heap.size w3 W → MovBox W w.heap.size #[.int .i64 tk, .string tx, .int .i64 tc, .slice A ts.length cap] ∧ MovBox W (w.heap.size + 1) #[.int .i64 kind, .string name, .int .i64 size, .int .i64 bw, .int .i64 bh, .int .i64 bd, .int .i64 bx, .int .i64 by_, .slice Ak ks.length ck, .int .i64 of_, .slice As src.length cs] ∧ Below w.heap.size w W) := fun W hW => KB.out W (bCl HT3.out hW)
  have HQ4 : Hid (∀ W, Below w3.heap.size w3 W → IntsR W (Lt W.heap.size) q (.slice A3 q.length cp)) := fun W hW => HQW.out W (KX.out W hW).2.2
  have HGTW : Hid (w.heap.size < w3.heap.size) := cIn m0
  have ne0 : ¬ (w3.heap.size = w.heap.size) := Nat.ne_of_gt HGTW.out
  have HDR : Hid (Below w3.heap.size w3 w3.drew) := (Below.refl _ _).drew
  have HDZ : Hid (Below w3.heap.size w3 (w3.alloc (Obj.cells #[.int .i64 0, .string ⟨#[]⟩, .int .i64 0, .slice none 0 0] 24)).drew) := (bNew _ _).drew
  have HZN : Hid (Four_ (w3.alloc (Obj.cells #[.int .i64 0, .string ⟨#[]⟩, .int .i64 0, .slice none 0 0] 24)).drew w3.heap.size [.int .i64 0, .string ⟨#[]⟩, .int .i64 0, .slice none 0 0]) := Four_.new w3 _ _ _ rfl _ rfl
  go_upto_region 5 with fail
  go_cut [10, 11] (fun p e wx => ∃ g4 A' c', p = .pointer (some ⟨g4, 0, none⟩) ∧ e = .int .i64 0 ∧ wx.cell? ⟨g4, 3, none⟩ = some (.slice A' rs.length c') ∧ Below w3.heap.size w3 wx)
  case first =>
    go_region_held3 (fun w' => w'.cell? ⟨w.heap.size, 0, none⟩ = some (.int .i64 tk) ∧ w'.cell? ⟨w.heap.size, 1, none⟩ = some (.string tx) ∧ w'.cell? ⟨w.heap.size, 2, none⟩ = some (.int .i64 tc) ∧ w'.cell? ⟨w.heap.size, 3, none⟩ = some (.slice A ts.length cap)) (go_keep) (first
      | (go_at_call 35; (with_reducible refine (HCUTB.out w3.drew).mono ?_); rintro e w1 ⟨rfl, hb1⟩; have HX1 : Hid (Below w3.heap.size w3 w1) := bDr hb1; clear hb1; obtain ⟨hm, hn, hbw⟩ := KX.out w1 HX1.out; have m0 := hm 0 _ rfl; have m1 := hm 1 _ rfl; have m2 := hm 2 _ rfl; have m3 := hm 3 _ rfl; clear hm hn hbw)
      | (go_at_call 35; (with_reducible refine (HCUTB.out _).mono ?_); rintro e w1 ⟨rfl, hb1⟩; have HX1 := hid (bCl HDZ.out hb1); have HZ1 := hid (HZN.out.keep hb1); obtain ⟨z0, z1, z2, z3, y0, y1, y2, y3⟩ := HZ1.out.facts; clear hb1; obtain ⟨hm, hn, hbw⟩ := KX.out w1 HX1.out; have m0 := hm 0 _ rfl; have m1 := hm 1 _ rfl; have m2 := hm 2 _ rfl; have m3 := hm 3 _ rfl; clear hm hn hbw)
      | (go_at_call 34; (with_reducible refine (HROWQ.out w1 _ _ (KX.out _ HX1.out).2.2 (HQ4.out _ HX1.out)).mono ?_); rintro e w2 ⟨v2, rfl, hr2, hb2⟩; obtain ⟨A2, c2, rfl⟩ := hr2.form; have HX2 := hid (bCl HX1.out hb2); have HZ2 := hid (HZ1.out.keep hb2); obtain ⟨z0, z1, z2, z3, y0, y1, y2, y3⟩ := HZ2.out.facts; clear hr2 hb2; obtain ⟨hm, hn, hbw⟩ := KX.out w2 HX2.out; have m0 := hm 0 _ rfl; have m1 := hm 1 _ rfl; have m2 := hm 2 _ rfl; have m3 := hm 3 _ rfl; clear hm hn hbw)
      | (go_at_call 34; (with_reducible refine (HROWQ.out w1 _ _ (KX.out _ HX1.out).2.2 (HQ4.out _ HX1.out)).mono ?_); rintro e w2 ⟨v2, rfl, hr2, hb2⟩; obtain ⟨A2, c2, rfl⟩ := hr2.form; have HX2 := hid (bCl HX1.out hb2); clear hr2 hb2; obtain ⟨hm, hn, hbw⟩ := KX.out w2 HX2.out; have m0 := hm 0 _ rfl; have m1 := hm 1 _ rfl; have m2 := hm 2 _ rfl; have m3 := hm 3 _ rfl; clear hm hn hbw)
      | (go_at_call 34; (with_reducible refine (HROWQ.out (w1.alloc (Obj.cells #[.int .i64 0, .string ⟨#[]⟩, .int .i64 0, .slice none 0 0] 24)) _ _ (KX.out _ (bAl HX1.out _)).2.2 (HQ4.out _ (bAl HX1.out _))).mono ?_); rintro e w2 ⟨v2, rfl, hr2, hb2⟩; obtain ⟨A2, c2, rfl⟩ := hr2.form; have HX2 := hid (bCl (bAl HX1.out _) hb2); have HZ2 := hid ((Four_.new w1 _ 24 _ rfl [.int .i64 0, .string ⟨#[]⟩, .int .i64 0, .slice none 0 0] rfl).keep hb2); have HXL := hid HX1.out.size; have ne1 : ¬ (w1.heap.size = w.heap.size) := (Nat.ne_of_gt (Nat.lt_of_lt_of_le HGTW.out HXL.out)); obtain ⟨z0, z1, z2, z3, y0, y1, y2, y3⟩ := HZ2.out.facts; clear hr2 hb2; obtain ⟨hm, hn, hbw⟩ := KX.out w2 HX2.out; have m0 := hm 0 _ rfl; have m1 := hm 1 _ rfl; have m2 := hm 2 _ rfl; have m3 := hm 3 _ rfl; clear hm hn hbw))
    all_goals
      go_wp2_with fail
      go_meet
      try dsimp only [Tree.kind, Tree.text, Tree.cols, Tree.kids]
      first
        | ((with_reducible refine ⟨_, A2, c2, rfl, rfl, ?_, bAl HX2.out _⟩); exact cNew _ _ _ _ _ rfl)
        | (with_reducible exact ⟨_, _, _, rfl, rfl, (HZ2.out.set _ _ _ _ (Nat.le_refl _) HX2.out).1, (HZ2.out.set _ _ _ _ (Nat.le_refl _) HX2.out).2⟩)
        | (with_reducible exact ⟨_, _, _, rfl, rfl, (HZ2.out.set _ _ _ _ HXL.out HX2.out).1, (HZ2.out.set _ _ _ _ HXL.out HX2.out).2⟩)
  case rest =>
    obtain ⟨g4, A5, c5, rfl, rfl, hc4, hbx⟩ := hcut
    have HBX := hid hbx
    have HC4 := hid hc4
    clear hbx hc4
    clear m0 m1 m2 m3 n0 n1 n2 n3 n4 n5 n6 n7 n8 n9 n10
    obtain ⟨hm, hn, hbw⟩ := KX.out wc HBX.out
    have m0 := hm 0 _ rfl
    have m1 := hm 1 _ rfl
    have m2 := hm 2 _ rfl
    have m3 := hm 3 _ rfl
    have n0 := hn 0 _ rfl
    have n1 := hn 1 _ rfl
    have n2 := hn 2 _ rfl
    have n3 := hn 3 _ rfl
    have n4 := hn 4 _ rfl
    have n5 := hn 5 _ rfl
    have n6 := hn 6 _ rfl
    have n7 := hn 7 _ rfl
    have n8 := hn 8 _ rfl
    have n9 := hn 9 _ rfl
    have n10 := hn 10 _ rfl
    have HW_wc := hid hbw
    clear hm hn hbw
    go_wp2_with (first
      | (go_at_call 35; (with_reducible refine (HCUTB.out _).mono ?_); rintro e w7 ⟨rfl, hb7⟩; have HE7 := hid ((owns_empty wc).below hb7); have HB7 : Hid (Below wc.heap.size wc w7) := hid (bCl (below_allocR _ _) hb7); clear hb7)
      | (at_builtin; refine app_ints rfl (.tmp 68) (.tmp 70) rfl wc.heap.size _ [] q rfl HE7.out _ _ _ _ rfl (HQ4.out _ (bCl HBX.out HB7.out)) (by simp; omega) HB7.out.size ?_; intro v8 w8 hown8 hb8 _; have HO8 := hid hown8; have HB8 := hid (HB7.out.trans hb8); clear hown8 hb8)
      | (at_builtin; refine app_ints rfl (.tmp 71) (.tmp 72) rfl wc.heap.size v8 ([] ++ q) [0] rfl (HO8.out.below (below_allocR _ _)) (Lt (w8.alloc (.cells #[.int .i64 0] 3)).heap.size) _ _ _ rfl (ints_lit w8 [0] (by simp [In64]) (by unfold Lt; simp) _ 1 rfl rfl (by simp [maxLen]) _ _ rfl) (by simp; omega) (by have := HB8.out.size; simp; omega) ?_; intro v9 w9 hown9 hb9 _; simp only [List.nil_append] at hown9; have HO9 := hid hown9; have HB9 := hid (HB8.out.trans ((Below.alloc (Below.refl wc.heap.size w8) HB8.out.size _).trans hb9)); clear hown9 hb9))
    go_ret2
    rw [HRE.out]
    exact ⟨HW_wc.out.trans (HB9.out.mono HW_wc.out.size), _, rfl, HO9.out.ints (S := fun k => w.heap.size ≤ k ∧ k < w9.heap.size) (fun _ h1 h2 => ⟨Nat.le_trans HW_wc.out.size h1, h2⟩)⟩
end Go.Proofs.YtmahiejfniaahaaGreatDoor
