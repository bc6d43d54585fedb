/- CaretAll. Written by wip/genlw40.py. -/
import Derived.Test.YtmahiejfniaahaaGreatDoorHK
import Derived.Test.YtmahiejfniaahaaGreatDoorRAlv
import Derived.Deep.RegionHeld3
set_option linter.unusedVariables false
set_option linter.unusedSimpArgs false
set_option maxRecDepth 100000
namespace Go.Proofs.YtmahiejfniaahaaGreatDoor
open Go.RowKit

set_option maxHeartbeats 8000000 in
theorem CaretAll_walk (t : Tree) (b : Bx) (A Ak As : Option Addr) (cap ck cs : Nat) (w : World) (hv : SliceR treeE w (Lt w.heap.size) t.kids (.slice A t.kids.length cap)) (hok : NodeOk t) (hb : BoxIn w b Ak As ck cs) (htab : TabOk w) :
    Calls Tryz.prog 4 #[nodeV t A cap, boxV b Ak As ck cs] w fun e w' => e = .returned (.bool true) ∧ Below w.heap.size w w' := by
  have HTAB := hid htab
  have CAW : Hid (∀ W, Below w.heap.size w W → Calls Tryz.prog 11 #[] W fun e w' => e = .returned (.bool true) ∧ Below W.heap.size W w') := fun W hW => awake40_any W (HTAB.out.below hW)
  have CFW : Hid (∀ W, Below w.heap.size w W → Calls Tryz.prog 12 #[nodeV t A cap, boxV b Ak As ck cs] W fun e w' => e = .returned (.bool (few40S t b)) ∧ Below W.heap.size W w') := fun W hW => few40_any t b A Ak As cap ck cs W (hv.below hW hW.size) (hb.below hW)
  generalize hW0 : ((w.alloc (Obj.cells #[.int .i64 t.kind, .string t.text, .int .i64 t.cols, .slice A t.kids.length cap] 24)).alloc (Obj.cells (boxC b.f (.slice Ak b.kids.length ck) (.slice As b.f.src.length cs)) 28)) = W0
  have KB : Hid (∀ W, Below W0.heap.size W0 W → Laid2 W w.heap.size w.heap.size t b A Ak As cap ck cs ∧ Below w.heap.size w W) := fun W hW => by
    have hz0 : W0.heap.size = w.heap.size + 2 := by rw [← hW0]; simp
    have h1 := Laid2.new w t b A Ak As cap ck cs 24 28 hv hb
    have h3 : Below w.heap.size w W0 := by rw [← hW0]; exact bAl (bNew _ _) _
    rw [hW0] at h1
    exact ⟨h1.below hW (by omega) (by omega), h3.trans (hW.mono h3.size)⟩
  have CP1 : Hid (few40S t b = true → ∀ W, Below w.heap.size w W → Calls Tryz.prog 17 #[nodeV t A cap, boxV b Ak As ck cs] W (CarsRes W (carsR t b))) := fun h W hW => call_any t b A Ak As cap ck cs W (hv.below hW hW.size) hok.2.2 (hb.below hW) (HTAB.out.below hW)
  have CP2 : Hid (few40S t b = true → ∀ W, Below w.heap.size w W → Calls Tryz.prog 18 #[nodeV t A cap, boxV b Ak As ck cs] W (CarsRes W (carsR t b))) := fun h W hW => by
    obtain ⟨h1, h2⟩ := few40_cnt h
    exact rcall_any t b A Ak As cap ck cs W (hv.below hW hW.size) hok.2.2 (by omega) (hb.below hW) (by omega)
  generalize carsR t b = r at *
  clear hv hok hb htab
  cases hf : few40S t b with
  | false =>
    rw [hf] at CFW
    clear hf CP1 CP2
    obtain ⟨hl2, hbw⟩ := KB.out W0 (Below.refl _ _)
    have m0 := hl2.node 0 _ rfl
    have m1 := hl2.node 1 _ rfl
    have m2 := hl2.node 2 _ rfl
    have m3 := hl2.node 3 _ rfl
    have n0 := hl2.box 0 _ rfl
    have n1 := hl2.box 1 _ rfl
    have n2 := hl2.box 2 _ rfl
    have n3 := hl2.box 3 _ rfl
    have n4 := hl2.box 4 _ rfl
    have n5 := hl2.box 5 _ rfl
    have n6 := hl2.box 6 _ rfl
    have n7 := hl2.box 7 _ rfl
    have n8 := hl2.box 8 _ rfl
    have n9 := hl2.box 9 _ rfl
    have n10 := hl2.box 10 _ rfl
    simp only [Nat.zero_add] at m0 m1 m2 m3 n0 n1 n2 n3 n4 n5 n6 n7 n8 n9 n10
    have HBW_W0 := hid hbw
    clear hl2 hbw
    go_enter Tryz.func4, Tryz.ntmps4
    go_wp2_with fail
    clear hW0
    refine (CAW.out _ HBW_W0.out).mono ?_
    rintro e w1 ⟨rfl, hb1⟩
    have HT1 := hid hb1
    clear hb1
    clear m0 m1 m2 m3 n0 n1 n2 n3 n4 n5 n6 n7 n8 n9 n10
    obtain ⟨hl2, hbw⟩ := KB.out w1 HT1.out
    have m0 := hl2.node 0 _ rfl
    have m1 := hl2.node 1 _ rfl
    have m2 := hl2.node 2 _ rfl
    have m3 := hl2.node 3 _ rfl
    have n0 := hl2.box 0 _ rfl
    have n1 := hl2.box 1 _ rfl
    have n2 := hl2.box 2 _ rfl
    have n3 := hl2.box 3 _ rfl
    have n4 := hl2.box 4 _ rfl
    have n5 := hl2.box 5 _ rfl
    have n6 := hl2.box 6 _ rfl
    have n7 := hl2.box 7 _ rfl
    have n8 := hl2.box 8 _ rfl
    have n9 := hl2.box 9 _ rfl
    have n10 := hl2.box 10 _ rfl
    simp only [Nat.zero_add] at m0 m1 m2 m3 n0 n1 n2 n3 n4 n5 n6 n7 n8 n9 n10
    have HBW_w1 := hid hbw
    clear hl2 hbw
    go_wp2_with fail
    refine (CFW.out _ HBW_w1.out).mono ?_
    rintro e w2 ⟨rfl, hb2⟩
    have HT2 := hid (bCl HT1.out hb2)
    clear hb2
    clear m0 m1 m2 m3 n0 n1 n2 n3 n4 n5 n6 n7 n8 n9 n10
    obtain ⟨hl2, hbw⟩ := KB.out w2 HT2.out
    have m0 := hl2.node 0 _ rfl
    have m1 := hl2.node 1 _ rfl
    have m2 := hl2.node 2 _ rfl
    have m3 := hl2.node 3 _ rfl
    have n0 := hl2.box 0 _ rfl
    have n1 := hl2.box 1 _ rfl
    have n2 := hl2.box 2 _ rfl
    have n3 := hl2.box 3 _ rfl
    have n4 := hl2.box 4 _ rfl
    have n5 := hl2.box 5 _ rfl
    have n6 := hl2.box 6 _ rfl
    have n7 := hl2.box 7 _ rfl
    have n8 := hl2.box 8 _ rfl
    have n9 := hl2.box 9 _ rfl
    have n10 := hl2.box 10 _ rfl
    simp only [Nat.zero_add] at m0 m1 m2 m3 n0 n1 n2 n3 n4 n5 n6 n7 n8 n9 n10
    have HBW_w2 := hid hbw
    clear hl2 hbw
    go_wp2_with fail
    go_ret
    exact ⟨rfl, HBW_w2.out⟩
  | true =>
    rw [hf] at CFW
    have C1 := hid (CP1.out hf)
    have C2 := hid (CP2.out hf)
    clear hf CP1 CP2
    obtain ⟨ds, er⟩ := r
    obtain ⟨hl2, hbw⟩ := KB.out W0 (Below.refl _ _)
    have m0 := hl2.node 0 _ rfl
    have m1 := hl2.node 1 _ rfl
    have m2 := hl2.node 2 _ rfl
    have m3 := hl2.node 3 _ rfl
    have n0 := hl2.box 0 _ rfl
    have n1 := hl2.box 1 _ rfl
    have n2 := hl2.box 2 _ rfl
    have n3 := hl2.box 3 _ rfl
    have n4 := hl2.box 4 _ rfl
    have n5 := hl2.box 5 _ rfl
    have n6 := hl2.box 6 _ rfl
    have n7 := hl2.box 7 _ rfl
    have n8 := hl2.box 8 _ rfl
    have n9 := hl2.box 9 _ rfl
    have n10 := hl2.box 10 _ rfl
    simp only [Nat.zero_add] at m0 m1 m2 m3 n0 n1 n2 n3 n4 n5 n6 n7 n8 n9 n10
    have HBW_W0 := hid hbw
    clear hl2 hbw
    go_enter Tryz.func4, Tryz.ntmps4
    go_wp2_with fail
    clear hW0
    refine (CAW.out _ HBW_W0.out).mono ?_
    rintro e w1 ⟨rfl, hb1⟩
    have HT1 := hid hb1
    clear hb1
    clear m0 m1 m2 m3 n0 n1 n2 n3 n4 n5 n6 n7 n8 n9 n10
    obtain ⟨hl2, hbw⟩ := KB.out w1 HT1.out
    have m0 := hl2.node 0 _ rfl
    have m1 := hl2.node 1 _ rfl
    have m2 := hl2.node 2 _ rfl
    have m3 := hl2.node 3 _ rfl
    have n0 := hl2.box 0 _ rfl
    have n1 := hl2.box 1 _ rfl
    have n2 := hl2.box 2 _ rfl
    have n3 := hl2.box 3 _ rfl
    have n4 := hl2.box 4 _ rfl
    have n5 := hl2.box 5 _ rfl
    have n6 := hl2.box 6 _ rfl
    have n7 := hl2.box 7 _ rfl
    have n8 := hl2.box 8 _ rfl
    have n9 := hl2.box 9 _ rfl
    have n10 := hl2.box 10 _ rfl
    simp only [Nat.zero_add] at m0 m1 m2 m3 n0 n1 n2 n3 n4 n5 n6 n7 n8 n9 n10
    have HBW_w1 := hid hbw
    clear hl2 hbw
    go_wp2_with fail
    refine (CFW.out _ HBW_w1.out).mono ?_
    rintro e w2 ⟨rfl, hb2⟩
    have HT2 := hid (bCl HT1.out hb2)
    clear hb2
    clear m0 m1 m2 m3 n0 n1 n2 n3 n4 n5 n6 n7 n8 n9 n10
    obtain ⟨hl2, hbw⟩ := KB.out w2 HT2.out
    have m0 := hl2.node 0 _ rfl
    have m1 := hl2.node 1 _ rfl
    have m2 := hl2.node 2 _ rfl
    have m3 := hl2.node 3 _ rfl
    have n0 := hl2.box 0 _ rfl
    have n1 := hl2.box 1 _ rfl
    have n2 := hl2.box 2 _ rfl
    have n3 := hl2.box 3 _ rfl
    have n4 := hl2.box 4 _ rfl
    have n5 := hl2.box 5 _ rfl
    have n6 := hl2.box 6 _ rfl
    have n7 := hl2.box 7 _ rfl
    have n8 := hl2.box 8 _ rfl
    have n9 := hl2.box 9 _ rfl
    have n10 := hl2.box 10 _ rfl
    simp only [Nat.zero_add] at m0 m1 m2 m3 n0 n1 n2 n3 n4 n5 n6 n7 n8 n9 n10
    have HBW_w2 := hid hbw
    clear hl2 hbw
    go_wp2_with fail
    refine (C1.out _ HBW_w2.out).mono ?_
    rintro e w3 ⟨hb3, v3, rfl, hi3⟩
    obtain ⟨A3, c3, hv3⟩ := hi3.form
    subst hv3
    have HT3 := hid (bCl HT2.out hb3)
    have HI3 : Hid (CarsR w3 (Lt w3.heap.size) ds (.slice A3 ds.length c3)) := hi3.keep (fun _ _ => rfl) (fun k hk => hk.2)
    clear hb3 hi3
    clear m0 m1 m2 m3 n0 n1 n2 n3 n4 n5 n6 n7 n8 n9 n10
    obtain ⟨hl2, hbw⟩ := KB.out w3 HT3.out
    have m0 := hl2.node 0 _ rfl
    have m1 := hl2.node 1 _ rfl
    have m2 := hl2.node 2 _ rfl
    have m3 := hl2.node 3 _ rfl
    have n0 := hl2.box 0 _ rfl
    have n1 := hl2.box 1 _ rfl
    have n2 := hl2.box 2 _ rfl
    have n3 := hl2.box 3 _ rfl
    have n4 := hl2.box 4 _ rfl
    have n5 := hl2.box 5 _ rfl
    have n6 := hl2.box 6 _ rfl
    have n7 := hl2.box 7 _ rfl
    have n8 := hl2.box 8 _ rfl
    have n9 := hl2.box 9 _ rfl
    have n10 := hl2.box 10 _ rfl
    simp only [Nat.zero_add] at m0 m1 m2 m3 n0 n1 n2 n3 n4 n5 n6 n7 n8 n9 n10
    have HBW_w3 := hid hbw
    clear hl2 hbw
    go_wp2_with fail
    refine (C2.out _ HBW_w3.out).mono ?_
    rintro e w4 ⟨hb4, v4, rfl, hi4⟩
    obtain ⟨A4, c4, hv4⟩ := hi4.form
    subst hv4
    have HT4 := hid (bCl HT3.out hb4)
    have HI4 : Hid (CarsR w4 (Lt w4.heap.size) ds (.slice A4 ds.length c4)) := hi4.keep (fun _ _ => rfl) (fun k hk => hk.2)
    have HJ4 := hid (HI3.out.below hb4 hb4.size)
    have hll := HI4.out.lens
    unfold maxLen at hll
    clear hb4 hi4
    clear m0 m1 m2 m3 n0 n1 n2 n3 n4 n5 n6 n7 n8 n9 n10
    go_wp2_with fail
    go_loopw [9] (fun i wr => Below w4.heap.size w4 wr ∧ ∃ k : Nat, k ≤ ds.length ∧ i = .int .i64 k) (fun i _ => ds.length - (intOf i).toNat)
    case atStart => exact ⟨Below.refl _ _, 0, Nat.zero_le _, rfl⟩
    case round =>
      obtain ⟨hbr, k, hk, rfl⟩ := hrel
      have HBR := hid hbr
      rcases Nat.lt_or_ge k ds.length with hlt | hge
      · obtain ⟨_, c3', rs, hq, _, _, hrd, hls⟩ := HJ4.out.below hbr hbr.size
        cases hq
        obtain ⟨_, c4', rs', hq, _, _, hrd', hls'⟩ := HI4.out.below hbr hbr.size
        cases hq
        obtain ⟨ga, oa, Aa, ca, rfl, hga, a0, a1, a2, a3, _, hia⟩ := cars_at hrd hls hlt
        obtain ⟨gb, ob, Ab, cb, rfl, hgb, b0, b1, b2, b3, _, hib⟩ := cars_at hrd' hls' hlt
        have i5 : decide ((k : Int) < (ds.length : Int)) = true := by rw [decide_eq_true_eq]; omega
        have i6 : (0 : Int) ≤ (k : Int) := by omega
        have i7 : (k : Int) < (ds.length : Int) := by omega
        clear hrd hls hrd' hls' hbr
        generalize ds[k] = d at *
        obtain ⟨ps, x, top, bot⟩ := d
        simp only at a0 a1 a2 a3 b0 b1 b2 b3 hia hib
        have K4 : Hid (∀ W, Below wr.heap.size wr W → ((W.cell? ⟨ga, oa + k * 4, none⟩ = some (.slice Aa ps.length ca) ∧ W.cell? ⟨ga, oa + k * 4 + 1, none⟩ = some (.int .i64 x) ∧ W.cell? ⟨ga, oa + k * 4 + 2, none⟩ = some (.int .i64 top) ∧ W.cell? ⟨ga, oa + k * 4 + 3, none⟩ = some (.int .i64 bot)) ∧ (W.cell? ⟨gb, ob + k * 4, none⟩ = some (.slice Ab ps.length cb) ∧ W.cell? ⟨gb, ob + k * 4 + 1, none⟩ = some (.int .i64 x) ∧ W.cell? ⟨gb, ob + k * 4 + 2, none⟩ = some (.int .i64 top) ∧ W.cell? ⟨gb, ob + k * 4 + 3, none⟩ = some (.int .i64 bot))) ∧ IntsR W (Lt W.heap.size) ps (.slice Aa ps.length ca) ∧ IntsR W (Lt W.heap.size) ps (.slice Ab ps.length cb)) := fun W hW =>
          ⟨⟨⟨(hW.cell (p := ⟨ga, _, none⟩) hga).trans a0, (hW.cell (p := ⟨ga, _, none⟩) hga).trans a1, (hW.cell (p := ⟨ga, _, none⟩) hga).trans a2, (hW.cell (p := ⟨ga, _, none⟩) hga).trans a3⟩, (hW.cell (p := ⟨gb, _, none⟩) hgb).trans b0, (hW.cell (p := ⟨gb, _, none⟩) hgb).trans b1, (hW.cell (p := ⟨gb, _, none⟩) hgb).trans b2, (hW.cell (p := ⟨gb, _, none⟩) hgb).trans b3⟩, hia.below hW hW.size, hib.below hW hW.size⟩
        have CRF := hid (fun W => ref40_q Aa ps.length ca x top bot W)
        have CSM : Hid (∀ W, Below wr.heap.size wr W → Calls Tryz.prog 15 #[.agg #[.slice Aa ps.length ca, .int .i64 x, .int .i64 top, .int .i64 bot], .agg #[.slice Ab ps.length cb, .int .i64 x, .int .i64 top, .int .i64 bot]] W fun e w' => e = .returned (.bool true) ∧ Below W.heap.size W w') := fun W hW => by
          obtain ⟨_, h1, h2⟩ := K4.out W hW
          exact same40_any ps x top bot Aa Ab ca cb W (Lt W.heap.size) (Lt W.heap.size) (fun _ h => h) (fun _ h => h) h1 h2
        clear hia hib
        go_upto_region 12 with fail
        go_region_held3 (fun w' => w'.cell? ⟨ga, oa + k * 4, none⟩ = some (.slice Aa ps.length ca) ∧ w'.cell? ⟨ga, oa + k * 4 + 1, none⟩ = some (.int .i64 x) ∧ w'.cell? ⟨ga, oa + k * 4 + 2, none⟩ = some (.int .i64 top) ∧ w'.cell? ⟨ga, oa + k * 4 + 3, none⟩ = some (.int .i64 bot) ∧ w'.cell? ⟨gb, ob + k * 4, none⟩ = some (.slice Ab ps.length cb) ∧ w'.cell? ⟨gb, ob + k * 4 + 1, none⟩ = some (.int .i64 x) ∧ w'.cell? ⟨gb, ob + k * 4 + 2, none⟩ = some (.int .i64 top) ∧ w'.cell? ⟨gb, ob + k * 4 + 3, none⟩ = some (.int .i64 bot)) (go_keep) (first
          | (go_at_call 16; (with_reducible refine (CRF.out _).mono ?_); rintro e w5 ⟨rfl, o1, o2, hw5⟩; have hb5 : Below wr.heap.size wr w5 := hw5 ▸ bAl (bAl (Below.refl _ _).drew _) _; have HB5 := hid hb5; clear hw5 hb5; obtain ⟨⟨⟨a0, a1, a2, a3⟩, b0, b1, b2, b3⟩, _, _⟩ := K4.out w5 HB5.out)
          | (go_at_call 15; (with_reducible refine (CSM.out w5 HB5.out).mono ?_); rintro e w6 ⟨rfl, hb6⟩; have HB6 := hid (bCl HB5.out hb6); clear hb6; obtain ⟨⟨⟨a0, a1, a2, a3⟩, b0, b1, b2, b3⟩, _, _⟩ := K4.out w6 HB6.out)
          | fail)
        all_goals
          go_wp2_with fail
          go_roundw
          case rel => exact ⟨bCl HBR.out HB6.out, k + 1, by omega, by go_num⟩
          case measure => simp [intOf]; omega
      · have i5 : decide ((k : Int) < (ds.length : Int)) = false := by rw [decide_eq_false_iff_not]; omega
        go_wp2_with fail
        go_ret
        exact ⟨rfl, (KB.out wr (bCl HT4.out HBR.out)).2⟩
end Go.Proofs.YtmahiejfniaahaaGreatDoor
