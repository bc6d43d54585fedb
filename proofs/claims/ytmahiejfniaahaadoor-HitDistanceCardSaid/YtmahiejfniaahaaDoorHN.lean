/- Texts put together: HitD, HitM. -/
import Derived.Test.YtmahiejfniaahaaDoorHL
import Derived.Laws.EntriesVeiled
import Derived.Deep.RegionHeld3
import Derived.Test.YtmahiejfniaahaaDoorHE
/- hit.Distance, the reference's, and the comparison of two carets. Written by wip/genhit.py. -/
set_option linter.unusedVariables false
set_option linter.unusedSimpArgs false
set_option maxRecDepth 100000
namespace Go.Proofs.YtmahiejfniaahaaDoor
open Go.RowKit

theorem hdist_any (d : CarD) (x y : Int) (A : Option Addr) (n c : Nat) (w : World) (hs : d.Sm) (hx : lenOk x = true) (hy : lenOk y = true) :
    Calls Tryd.prog 14 #[.agg #[.slice A n c, .int .i64 d.x, .int .i64 d.top, .int .i64 d.bottom], .int .i64 x, .int .i64 y] w fun e w' => e = .returned (.int .i64 (distS d x y)) ∧ Below w.heap.size w w' := by
  obtain ⟨W0, hW0⟩ : ∃ W0, w.alloc (.cells #[.slice A n c, .int .i64 d.x, .int .i64 d.top, .int .i64 d.bottom] 42) = W0 := ⟨_, rfl⟩
  have hb0 : Below w.heap.size w W0 := by rw [← hW0]; exact bNew _ _
  have c1 : W0.cell? ⟨w.heap.size, 1, none⟩ = some (.int .i64 d.x) := by rw [← hW0]; exact cNew _ _ _ _ _ rfl
  have c2 : W0.cell? ⟨w.heap.size, 2, none⟩ = some (.int .i64 d.top) := by rw [← hW0]; exact cNew _ _ _ _ _ rfl
  have c3 : W0.cell? ⟨w.heap.size, 3, none⟩ = some (.int .i64 d.bottom) := by rw [← hW0]; exact cNew _ _ _ _ _ rfl
  have hbd := distS_bd hs hx hy
  obtain ⟨h1, h2, h3⟩ := hs
  unfold Sm at h1 h2 h3
  simp only [lenOk, decide_eq_true_eq] at hx hy
  have v1 : IntKind.i64.wrap (x - d.x) = x - d.x := IntWalk.i64_in _ (by omega)
  have v2 : IntKind.i64.wrap (d.x - x) = d.x - x := IntWalk.i64_in _ (by omega)
  have v3 : IntKind.i64.wrap (y - d.top) = y - d.top := IntWalk.i64_in _ (by omega)
  have v4 : IntKind.i64.wrap (d.bottom - y) = d.bottom - y := IntWalk.i64_in _ (by omega)
  have v5 : IntKind.i64.wrap (distS d x y) = distS d x y := IntWalk.i64_in _ (by omega)
  have HB0 := hid hb0
  clear h1 h2 h3 hx hy hbd hb0
  obtain ⟨e, he⟩ : ∃ e, distS d x y = e := ⟨_, rfl⟩
  rw [he] at v5 ⊢
  unfold distS at he
  generalize ha1 : x - d.x = a1 at *
  generalize ha2 : d.x - x = a2 at *
  generalize ha3 : y - d.top = a3 at *
  generalize ha4 : d.bottom - y = a4 at *
  have v1' : IntKind.i64.wrap (x - d.x) = a1 := by rw [ha1]; exact v1
  have v2' : IntKind.i64.wrap (d.x - x) = a2 := by rw [ha2]; exact v2
  have v3' : IntKind.i64.wrap (y - d.top) = a3 := by rw [ha3]; exact v3
  have v4' : IntKind.i64.wrap (d.bottom - y) = a4 := by rw [ha4]; exact v4
  clear ha1 ha2 ha3 ha4 v1 v2 v3 v4
  have hc : (∃ m, (if 0 < a3 then a3 else 0) = m ∧ (if m < a4 then a4 else m) = max (max 0 a3) a4) := ⟨_, rfl, by split <;> split <;> omega⟩
  have fin : ∀ r, r = max (max 0 a3) a4 → IntKind.i64.wrap (max a1 a2 + r) = e := fun r hr => by rw [hr, he]; exact v5
  by_cases p : 0 < a3
  · by_cases q : a3 < a4
    · have v6 := fin a4 (by omega)
      clear fin hc he v5
      go_enter Tryd.func14, Tryd.ntmps14
      go_upto_region 1 with fail
      try rw [hW0]
      clear hW0
      go_wp2_with fail
      go_ret
      exact ⟨rfl, HB0.out⟩
    · have v6 := fin a3 (by omega)
      clear fin hc he v5
      go_enter Tryd.func14, Tryd.ntmps14
      go_upto_region 1 with fail
      try rw [hW0]
      clear hW0
      go_wp2_with fail
      go_ret
      exact ⟨rfl, HB0.out⟩
  · by_cases q : (0 : Int) < a4
    · have v6 := fin a4 (by omega)
      clear fin hc he v5
      go_enter Tryd.func14, Tryd.ntmps14
      go_upto_region 1 with fail
      try rw [hW0]
      clear hW0
      go_wp2_with fail
      go_ret
      exact ⟨rfl, HB0.out⟩
    · have v6 := fin 0 (by omega)
      rw [Int.add_zero] at v6
      clear fin hc he v5
      go_enter Tryd.func14, Tryd.ntmps14
      go_upto_region 1 with fail
      try rw [hW0]
      clear hW0
      go_wp2_with fail
      go_ret
      exact ⟨rfl, HB0.out⟩
theorem rdist_any (d : CarD) (x y : Int) (A : Option Addr) (n c : Nat) (w : World) (hs : d.Sm) (hx : lenOk x = true) (hy : lenOk y = true) :
    Calls Tryd.prog 15 #[.agg #[.slice A n c, .int .i64 d.x, .int .i64 d.top, .int .i64 d.bottom], .int .i64 x, .int .i64 y] w fun e w' => e = .returned (.int .i64 (distS d x y)) ∧ Below w.heap.size w w' := by
  obtain ⟨W0, hW0⟩ : ∃ W0, w.alloc (.cells #[.slice A n c, .int .i64 d.x, .int .i64 d.top, .int .i64 d.bottom] 49) = W0 := ⟨_, rfl⟩
  have hb0 : Below w.heap.size w W0 := by rw [← hW0]; exact bNew _ _
  have c1 : W0.cell? ⟨w.heap.size, 1, none⟩ = some (.int .i64 d.x) := by rw [← hW0]; exact cNew _ _ _ _ _ rfl
  have c2 : W0.cell? ⟨w.heap.size, 2, none⟩ = some (.int .i64 d.top) := by rw [← hW0]; exact cNew _ _ _ _ _ rfl
  have c3 : W0.cell? ⟨w.heap.size, 3, none⟩ = some (.int .i64 d.bottom) := by rw [← hW0]; exact cNew _ _ _ _ _ rfl
  have hbd := distS_bd hs hx hy
  obtain ⟨h1, h2, h3⟩ := hs
  unfold Sm at h1 h2 h3
  simp only [lenOk, decide_eq_true_eq] at hx hy
  have v1 : IntKind.i64.wrap (x - d.x) = x - d.x := IntWalk.i64_in _ (by omega)
  have v2 : IntKind.i64.wrap (d.x - x) = d.x - x := IntWalk.i64_in _ (by omega)
  have v3 : IntKind.i64.wrap (y - d.top) = y - d.top := IntWalk.i64_in _ (by omega)
  have v4 : IntKind.i64.wrap (d.bottom - y) = d.bottom - y := IntWalk.i64_in _ (by omega)
  have v5 : IntKind.i64.wrap (distS d x y) = distS d x y := IntWalk.i64_in _ (by omega)
  have HB0 := hid hb0
  clear h1 h2 h3 hx hy hbd hb0
  obtain ⟨e, he⟩ : ∃ e, distS d x y = e := ⟨_, rfl⟩
  rw [he] at v5 ⊢
  unfold distS at he
  generalize ha1 : x - d.x = a1 at *
  generalize ha2 : d.x - x = a2 at *
  generalize ha3 : y - d.top = a3 at *
  generalize ha4 : d.bottom - y = a4 at *
  have v1' : IntKind.i64.wrap (x - d.x) = a1 := by rw [ha1]; exact v1
  have v2' : IntKind.i64.wrap (d.x - x) = a2 := by rw [ha2]; exact v2
  have v3' : IntKind.i64.wrap (y - d.top) = a3 := by rw [ha3]; exact v3
  have v4' : IntKind.i64.wrap (d.bottom - y) = a4 := by rw [ha4]; exact v4
  clear ha1 ha2 ha3 ha4 v1 v2 v3 v4
  have hc : (∃ m, (if 0 < a3 then a3 else 0) = m ∧ (if m < a4 then a4 else m) = max (max 0 a3) a4) := ⟨_, rfl, by split <;> split <;> omega⟩
  have fin : ∀ r, r = max (max 0 a3) a4 → IntKind.i64.wrap (max a1 a2 + r) = e := fun r hr => by rw [hr, he]; exact v5
  by_cases p : 0 < a3
  · by_cases q : a3 < a4
    · have v6 := fin a4 (by omega)
      clear fin hc he v5
      go_enter Tryd.func15, Tryd.ntmps15
      go_upto_region 1 with fail
      try rw [hW0]
      clear hW0
      go_wp2_with fail
      go_ret
      exact ⟨rfl, HB0.out⟩
    · have v6 := fin a3 (by omega)
      clear fin hc he v5
      go_enter Tryd.func15, Tryd.ntmps15
      go_upto_region 1 with fail
      try rw [hW0]
      clear hW0
      go_wp2_with fail
      go_ret
      exact ⟨rfl, HB0.out⟩
  · by_cases q : (0 : Int) < a4
    · have v6 := fin a4 (by omega)
      clear fin hc he v5
      go_enter Tryd.func15, Tryd.ntmps15
      go_upto_region 1 with fail
      try rw [hW0]
      clear hW0
      go_wp2_with fail
      go_ret
      exact ⟨rfl, HB0.out⟩
    · have v6 := fin 0 (by omega)
      rw [Int.add_zero] at v6
      clear fin hc he v5
      go_enter Tryd.func15, Tryd.ntmps15
      go_upto_region 1 with fail
      try rw [hW0]
      clear hW0
      go_wp2_with fail
      go_ret
      exact ⟨rfl, HB0.out⟩

set_option maxHeartbeats 4000000 in
theorem hcmp_any (d e : CarD) (x y : Int) (A1 A2 : Option Addr) (n1 c1 n2 c2 px py : Nat) (w : World) (hd : d.Sm) (he : e.Sm) (hx : lenOk x = true) (hy : lenOk y = true) (hpx : w.cell? ⟨px, 0, none⟩ = some (.int .i64 x)) (hpy : w.cell? ⟨py, 0, none⟩ = some (.int .i64 y)) :
    Calls Tryd.prog 48 #[.agg #[.slice A1 n1 c1, .int .i64 d.x, .int .i64 d.top, .int .i64 d.bottom], .agg #[.slice A2 n2 c2, .int .i64 e.x, .int .i64 e.top, .int .i64 e.bottom], .pointer (some ⟨px, 0, none⟩), .pointer (some ⟨py, 0, none⟩)] w fun r w' => r = .returned (.int .i64 (hitC x y d e)) ∧ Below w.heap.size w w' := by
  have hgx : px < w.heap.size := cIn hpx
  have hgy : py < w.heap.size := cIn hpy
  obtain ⟨W0, hW0⟩ : ∃ W0, (w.alloc (.cells #[.slice A1 n1 c1, .int .i64 d.x, .int .i64 d.top, .int .i64 d.bottom] 42)).alloc (.cells #[.slice A2 n2 c2, .int .i64 e.x, .int .i64 e.top, .int .i64 e.bottom] 42) = W0 := ⟨_, rfl⟩
  have KX : Hid (∀ W, Below W0.heap.size W0 W → BoxL W w.heap.size 0 [.slice A1 n1 c1, .int .i64 d.x, .int .i64 d.top, .int .i64 d.bottom] ∧ BoxL W (w.heap.size + 1) 0 [.slice A2 n2 c2, .int .i64 e.x, .int .i64 e.top, .int .i64 e.bottom] ∧ W.cell? ⟨px, 0, none⟩ = some (.int .i64 x) ∧ W.cell? ⟨py, 0, none⟩ = some (.int .i64 y)) := fun W hW => by
    have hz0 : W0.heap.size = w.heap.size + 2 := by rw [← hW0]; simp
    have h3 : Below w.heap.size w W0 := by rw [← hW0]; exact bAl (bNew _ _) _
    have h1 : BoxL W0 w.heap.size 0 [.slice A1 n1 c1, .int .i64 d.x, .int .i64 d.top, .int .i64 d.bottom] := by rw [← hW0]; exact (BoxL.new _ _ _ _ rfl _ rfl).below (bNew _ _) (by simp)
    have h2 : BoxL W0 (w.heap.size + 1) 0 [.slice A2 n2 c2, .int .i64 e.x, .int .i64 e.top, .int .i64 e.bottom] := by rw [← hW0]; exact BoxL.new _ _ _ _ (by simp) _ rfl
    have h4 := h3.trans (hW.mono h3.size)
    exact ⟨h1.below hW (by omega), h2.below hW (by omega), (h4.cell (p := ⟨px, 0, none⟩) hgx).trans hpx, (h4.cell (p := ⟨py, 0, none⟩) hgy).trans hpy⟩
  have HB0 : Hid (Below w.heap.size w W0) := by show Below w.heap.size w W0; rw [← hW0]; exact bAl (bNew _ _) _
  have CD : Hid (∀ W, Below W0.heap.size W0 W → Calls Tryd.prog 14 #[.agg #[.slice A1 n1 c1, .int .i64 d.x, .int .i64 d.top, .int .i64 d.bottom], .int .i64 x, .int .i64 y] W fun r w' => r = .returned (.int .i64 (distS d x y)) ∧ Below W.heap.size W w') := fun W _ => hdist_any d x y A1 n1 c1 W hd hx hy
  have CE : Hid (∀ W, Below W0.heap.size W0 W → Calls Tryd.prog 14 #[.agg #[.slice A2 n2 c2, .int .i64 e.x, .int .i64 e.top, .int .i64 e.bottom], .int .i64 x, .int .i64 y] W fun r w' => r = .returned (.int .i64 (distS e x y)) ∧ Below W.heap.size W w') := fun W _ => hdist_any e x y A2 n2 c2 W he hx hy
  have CC := hid (fun (u v : Int) W => ccmp_q u v W)
  obtain ⟨s1, s2, s3⟩ := hd
  obtain ⟨t1, t2, t3⟩ := he
  unfold Sm at s1 s2 s3 t1 t2 t3
  have v1 : IntKind.i64.wrap (d.top - d.bottom) = d.top - d.bottom := IntWalk.i64_in _ (by omega)
  have v2 : IntKind.i64.wrap (e.top - e.bottom) = e.top - e.bottom := IntWalk.i64_in _ (by omega)
  have HF : Hid (hitC x y d e = if icmp (distS d x y) (distS e x y) ≠ 0 then icmp (distS d x y) (distS e x y) else icmp (d.top - d.bottom) (e.top - e.bottom)) := rfl
  obtain ⟨cc, hcc⟩ : ∃ c, icmp (distS d x y) (distS e x y) = c := ⟨_, rfl⟩
  have CCX : Hid (∀ W, Calls Tryd.prog 49 #[.int .i64 (distS d x y), .int .i64 (distS e x y)] W fun r w' => r = .returned (.int .i64 cc) ∧ W = w') := fun W => by
    have h := CC.out (distS d x y) (distS e x y) W
    rwa [hcc] at h
  rw [hcc] at HF
  generalize distS d x y = ud at *
  generalize distS e x y = ue at *
  generalize hitC x y d e = res at *
  clear s1 s2 s3 t1 t2 t3 hx hy hpx hpy hgx hgy hcc
  obtain ⟨ha, hb, p0, q0⟩ := KX.out W0 (Below.refl _ _)
  have a0 := ha 0 _ rfl
  have a1 := ha 1 _ rfl
  have a2 := ha 2 _ rfl
  have a3 := ha 3 _ rfl
  have b0 := hb 0 _ rfl
  have b1 := hb 1 _ rfl
  have b2 := hb 2 _ rfl
  have b3 := hb 3 _ rfl
  simp only [Nat.zero_add] at a0 a1 a2 a3 b0 b1 b2 b3
  clear ha hb
  by_cases hc : cc = 0
  · have i1 : (cc == 0) = true := by simp [hc]
    have i2 : (cc != 0) = false := by simp [hc]
    have i3 : decide (cc = 0) = true := by simp [hc]
    have HR : Hid (res = icmp (d.top - d.bottom) (e.top - e.bottom)) := by have h := HF.out; rwa [if_neg (by simp [hc])] at h
    clear HF hc
    go_enter Tryd.func48, Tryd.ntmps48
    go_upto_region 1 with fail
    try rw [hW0]
    clear hW0
    go_region_held3 (fun w' => w'.cell? ⟨w.heap.size, 0, none⟩ = some (.slice A1 n1 c1) ∧ w'.cell? ⟨w.heap.size, 1, none⟩ = some (.int .i64 d.x) ∧ w'.cell? ⟨w.heap.size, 2, none⟩ = some (.int .i64 d.top) ∧ w'.cell? ⟨w.heap.size, 3, none⟩ = some (.int .i64 d.bottom) ∧ w'.cell? ⟨w.heap.size + 1, 0, none⟩ = some (.slice A2 n2 c2) ∧ w'.cell? ⟨w.heap.size + 1, 1, none⟩ = some (.int .i64 e.x) ∧ w'.cell? ⟨w.heap.size + 1, 2, none⟩ = some (.int .i64 e.top) ∧ w'.cell? ⟨w.heap.size + 1, 3, none⟩ = some (.int .i64 e.bottom) ∧ w'.cell? ⟨px, 0, none⟩ = some (.int .i64 x) ∧ w'.cell? ⟨py, 0, none⟩ = some (.int .i64 y)) (go_keep) (first
      | (go_at_call 14; (with_reducible refine (CE.out _ (bCl HBd.out (by (repeat (first | with_reducible exact Below.refl _ _ | with_reducible refine Below.drew ?_ | with_reducible refine bAl ?_ _ | fail))))).mono ?_); rintro r0 we ⟨rfl, hb0⟩; have HEB : Hid (Below W0.heap.size W0 we) := hid (bCl (bCl HBd.out (show Below wd.heap.size wd _ by (repeat (first | with_reducible exact Below.refl _ _ | with_reducible refine Below.drew ?_ | with_reducible refine bAl ?_ _ | fail)))) hb0); clear hb0; obtain ⟨ha, hb, p0, q0⟩ := KX.out _ HEB.out; have a0 := ha 0 _ rfl; have a1 := ha 1 _ rfl; have a2 := ha 2 _ rfl; have a3 := ha 3 _ rfl; have b0 := hb 0 _ rfl; have b1 := hb 1 _ rfl; have b2 := hb 2 _ rfl; have b3 := hb 3 _ rfl; simp only [Nat.zero_add] at a0 a1 a2 a3 b0 b1 b2 b3; clear ha hb)
      | (go_at_call 14; (with_reducible refine (CD.out _ (bCl HBe.out (by (repeat (first | with_reducible exact Below.refl _ _ | with_reducible refine Below.drew ?_ | with_reducible refine bAl ?_ _ | fail))))).mono ?_); rintro r0 wd ⟨rfl, hb0⟩; have HEB : Hid (Below W0.heap.size W0 wd) := hid (bCl (bCl HBe.out (show Below we.heap.size we _ by (repeat (first | with_reducible exact Below.refl _ _ | with_reducible refine Below.drew ?_ | with_reducible refine bAl ?_ _ | fail)))) hb0); clear hb0; obtain ⟨ha, hb, p0, q0⟩ := KX.out _ HEB.out; have a0 := ha 0 _ rfl; have a1 := ha 1 _ rfl; have a2 := ha 2 _ rfl; have a3 := ha 3 _ rfl; have b0 := hb 0 _ rfl; have b1 := hb 1 _ rfl; have b2 := hb 2 _ rfl; have b3 := hb 3 _ rfl; simp only [Nat.zero_add] at a0 a1 a2 a3 b0 b1 b2 b3; clear ha hb)
      | (go_at_call 14; (with_reducible refine (CD.out _ (by (repeat (first | with_reducible exact Below.refl _ _ | with_reducible refine Below.drew ?_ | with_reducible refine bAl ?_ _ | fail)))).mono ?_); rintro r0 wd ⟨rfl, hb0⟩; have HBd : Hid (Below W0.heap.size W0 wd) := hid (bCl (show Below W0.heap.size W0 _ by (repeat (first | with_reducible exact Below.refl _ _ | with_reducible refine Below.drew ?_ | with_reducible refine bAl ?_ _ | fail))) hb0); clear hb0; obtain ⟨ha, hb, p0, q0⟩ := KX.out _ HBd.out; have a0 := ha 0 _ rfl; have a1 := ha 1 _ rfl; have a2 := ha 2 _ rfl; have a3 := ha 3 _ rfl; have b0 := hb 0 _ rfl; have b1 := hb 1 _ rfl; have b2 := hb 2 _ rfl; have b3 := hb 3 _ rfl; simp only [Nat.zero_add] at a0 a1 a2 a3 b0 b1 b2 b3; clear ha hb)
      | (go_at_call 14; (with_reducible refine (CE.out _ (by (repeat (first | with_reducible exact Below.refl _ _ | with_reducible refine Below.drew ?_ | with_reducible refine bAl ?_ _ | fail)))).mono ?_); rintro r0 we ⟨rfl, hb0⟩; have HBe : Hid (Below W0.heap.size W0 we) := hid (bCl (show Below W0.heap.size W0 _ by (repeat (first | with_reducible exact Below.refl _ _ | with_reducible refine Below.drew ?_ | with_reducible refine bAl ?_ _ | fail))) hb0); clear hb0; obtain ⟨ha, hb, p0, q0⟩ := KX.out _ HBe.out; have a0 := ha 0 _ rfl; have a1 := ha 1 _ rfl; have a2 := ha 2 _ rfl; have a3 := ha 3 _ rfl; have b0 := hb 0 _ rfl; have b1 := hb 1 _ rfl; have b2 := hb 2 _ rfl; have b3 := hb 3 _ rfl; simp only [Nat.zero_add] at a0 a1 a2 a3 b0 b1 b2 b3; clear ha hb)
      | (go_at_call 49; (with_reducible refine (CCX.out _).mono ?_); rintro r0 w9 ⟨rfl, rfl⟩)
      | fail)
    all_goals
      go_wp2_with (go_at_call 49; refine (CC.out _ _ _).mono ?_; rintro r0 w9 ⟨rfl, rfl⟩)
      go_ret
      exact ⟨by rw [HR.out]; rfl, (HB0.out.trans (Below.mono (by first | exact HEB.out | exact HEB.out.drew) HB0.out.size))⟩
  · have i1 : (cc == 0) = false := by simpa using hc
    have i2 : (cc != 0) = true := by simp [hc]
    have i3 : decide (cc = 0) = false := by simpa using hc
    have HR : Hid (res = cc) := by have h := HF.out; rwa [if_pos hc] at h
    clear HF hc
    go_enter Tryd.func48, Tryd.ntmps48
    go_upto_region 1 with fail
    try rw [hW0]
    clear hW0
    go_region_held3 (fun w' => w'.cell? ⟨w.heap.size, 0, none⟩ = some (.slice A1 n1 c1) ∧ w'.cell? ⟨w.heap.size, 1, none⟩ = some (.int .i64 d.x) ∧ w'.cell? ⟨w.heap.size, 2, none⟩ = some (.int .i64 d.top) ∧ w'.cell? ⟨w.heap.size, 3, none⟩ = some (.int .i64 d.bottom) ∧ w'.cell? ⟨w.heap.size + 1, 0, none⟩ = some (.slice A2 n2 c2) ∧ w'.cell? ⟨w.heap.size + 1, 1, none⟩ = some (.int .i64 e.x) ∧ w'.cell? ⟨w.heap.size + 1, 2, none⟩ = some (.int .i64 e.top) ∧ w'.cell? ⟨w.heap.size + 1, 3, none⟩ = some (.int .i64 e.bottom) ∧ w'.cell? ⟨px, 0, none⟩ = some (.int .i64 x) ∧ w'.cell? ⟨py, 0, none⟩ = some (.int .i64 y)) (go_keep) (first
      | (go_at_call 14; (with_reducible refine (CE.out _ (bCl HBd.out (by (repeat (first | with_reducible exact Below.refl _ _ | with_reducible refine Below.drew ?_ | with_reducible refine bAl ?_ _ | fail))))).mono ?_); rintro r0 we ⟨rfl, hb0⟩; have HEB : Hid (Below W0.heap.size W0 we) := hid (bCl (bCl HBd.out (show Below wd.heap.size wd _ by (repeat (first | with_reducible exact Below.refl _ _ | with_reducible refine Below.drew ?_ | with_reducible refine bAl ?_ _ | fail)))) hb0); clear hb0; obtain ⟨ha, hb, p0, q0⟩ := KX.out _ HEB.out; have a0 := ha 0 _ rfl; have a1 := ha 1 _ rfl; have a2 := ha 2 _ rfl; have a3 := ha 3 _ rfl; have b0 := hb 0 _ rfl; have b1 := hb 1 _ rfl; have b2 := hb 2 _ rfl; have b3 := hb 3 _ rfl; simp only [Nat.zero_add] at a0 a1 a2 a3 b0 b1 b2 b3; clear ha hb)
      | (go_at_call 14; (with_reducible refine (CD.out _ (bCl HBe.out (by (repeat (first | with_reducible exact Below.refl _ _ | with_reducible refine Below.drew ?_ | with_reducible refine bAl ?_ _ | fail))))).mono ?_); rintro r0 wd ⟨rfl, hb0⟩; have HEB : Hid (Below W0.heap.size W0 wd) := hid (bCl (bCl HBe.out (show Below we.heap.size we _ by (repeat (first | with_reducible exact Below.refl _ _ | with_reducible refine Below.drew ?_ | with_reducible refine bAl ?_ _ | fail)))) hb0); clear hb0; obtain ⟨ha, hb, p0, q0⟩ := KX.out _ HEB.out; have a0 := ha 0 _ rfl; have a1 := ha 1 _ rfl; have a2 := ha 2 _ rfl; have a3 := ha 3 _ rfl; have b0 := hb 0 _ rfl; have b1 := hb 1 _ rfl; have b2 := hb 2 _ rfl; have b3 := hb 3 _ rfl; simp only [Nat.zero_add] at a0 a1 a2 a3 b0 b1 b2 b3; clear ha hb)
      | (go_at_call 14; (with_reducible refine (CD.out _ (by (repeat (first | with_reducible exact Below.refl _ _ | with_reducible refine Below.drew ?_ | with_reducible refine bAl ?_ _ | fail)))).mono ?_); rintro r0 wd ⟨rfl, hb0⟩; have HBd : Hid (Below W0.heap.size W0 wd) := hid (bCl (show Below W0.heap.size W0 _ by (repeat (first | with_reducible exact Below.refl _ _ | with_reducible refine Below.drew ?_ | with_reducible refine bAl ?_ _ | fail))) hb0); clear hb0; obtain ⟨ha, hb, p0, q0⟩ := KX.out _ HBd.out; have a0 := ha 0 _ rfl; have a1 := ha 1 _ rfl; have a2 := ha 2 _ rfl; have a3 := ha 3 _ rfl; have b0 := hb 0 _ rfl; have b1 := hb 1 _ rfl; have b2 := hb 2 _ rfl; have b3 := hb 3 _ rfl; simp only [Nat.zero_add] at a0 a1 a2 a3 b0 b1 b2 b3; clear ha hb)
      | (go_at_call 14; (with_reducible refine (CE.out _ (by (repeat (first | with_reducible exact Below.refl _ _ | with_reducible refine Below.drew ?_ | with_reducible refine bAl ?_ _ | fail)))).mono ?_); rintro r0 we ⟨rfl, hb0⟩; have HBe : Hid (Below W0.heap.size W0 we) := hid (bCl (show Below W0.heap.size W0 _ by (repeat (first | with_reducible exact Below.refl _ _ | with_reducible refine Below.drew ?_ | with_reducible refine bAl ?_ _ | fail))) hb0); clear hb0; obtain ⟨ha, hb, p0, q0⟩ := KX.out _ HBe.out; have a0 := ha 0 _ rfl; have a1 := ha 1 _ rfl; have a2 := ha 2 _ rfl; have a3 := ha 3 _ rfl; have b0 := hb 0 _ rfl; have b1 := hb 1 _ rfl; have b2 := hb 2 _ rfl; have b3 := hb 3 _ rfl; simp only [Nat.zero_add] at a0 a1 a2 a3 b0 b1 b2 b3; clear ha hb)
      | (go_at_call 49; (with_reducible refine (CCX.out _).mono ?_); rintro r0 w9 ⟨rfl, rfl⟩)
      | fail)
    all_goals
      go_wp2_with fail
      go_ret
      exact ⟨by rw [HR.out]; rfl, (HB0.out.trans (Below.mono (by first | exact HEB.out | exact HEB.out.drew) HB0.out.size))⟩

end Go.Proofs.YtmahiejfniaahaaDoor
/- slices.MinFunc over carets. Written by wip/genhit.py. -/
set_option linter.unusedVariables false
set_option linter.unusedSimpArgs false
set_option maxRecDepth 100000
namespace Go.Proofs.YtmahiejfniaahaaDoor
open Go.RowKit

theorem carsAt {w : World} {S : Nat → Prop} {ds : List CarD} {A : Option Addr} {cs : List Value} (h3 : Reads w S A cs) (h4 : ListR carE w S ds cs) {k : Nat} (hk : k < ds.length) :
    ∃ g o A' c', A = some ⟨g, o, none⟩ ∧ S g ∧ w.cell? ⟨g, o + k * 4, none⟩ = some (.slice A' ds[k].pos.length c') ∧ w.cell? ⟨g, o + k * 4 + 1, none⟩ = some (.int .i64 ds[k].x) ∧ w.cell? ⟨g, o + k * 4 + 2, none⟩ = some (.int .i64 ds[k].top) ∧ w.cell? ⟨g, o + k * 4 + 3, none⟩ = some (.int .i64 ds[k].bottom) ∧ ds[k].Ok ∧ IntsR w S ds[k].pos (.slice A' ds[k].pos.length c') := by
  obtain ⟨g, o, c, e, hb, ⟨v, rfl, h5, h6⟩, hc⟩ := slice_at h3 h4 hk
  obtain ⟨A', c', rfl⟩ := h6.form
  have hE : carE.size = 4 := rfl
  rw [hE] at hc
  exact ⟨g, o, A', c', e, hb, hc 0 _ rfl, hc 1 _ rfl, hc 2 _ rfl, hc 3 _ rfl, h5, h6⟩
theorem box4 {W : World} {b : Nat} {u0 u1 u2 u3 : Value} (z0 : W.cell? ⟨b, 0, none⟩ = some u0) (z1 : W.cell? ⟨b, 1, none⟩ = some u1) (z2 : W.cell? ⟨b, 2, none⟩ = some u2) (z3 : W.cell? ⟨b, 3, none⟩ = some u3) : BoxL W b 0 [u0, u1, u2, u3] := by
  intro j u hu
  rw [Nat.zero_add]
  match j, hu with
  | 0, hu => simp at hu; rw [z0, hu]
  | 1, hu => simp at hu; rw [z1, hu]
  | 2, hu => simp at hu; rw [z2, hu]
  | 3, hu => simp at hu; rw [z3, hu]
  | j + 4, hu => simp at hu
theorem getD_at {α : Type} (ds : List α) (z : α) {k : Nat} (h : k < ds.length) : ds.getD k z = ds[k] := by simp [List.getD_eq_getElem?_getD, h]
/-- A caret that a call has put into a block of its own: its cells, with the positions in older memory. -/
def CarAtB (W w0 : World) (S : Nat → Prop) (g : Nat) (d : CarD) : Prop := ∃ A c, BoxL W g 0 [.slice A d.pos.length c, .int .i64 d.x, .int .i64 d.top, .int .i64 d.bottom] ∧ IntsR w0 S d.pos (.slice A d.pos.length c)
def MinRes (w : World) (S : Nat → Prop) (d : CarD) (e : Ending) (w' : World) : Prop := ∃ v, e = .returned (.agg #[v, .int .i64 d.x, .int .i64 d.top, .int .i64 d.bottom]) ∧ IntsR w S d.pos v ∧ Below w.heap.size w w'
/-- What the loop keeps: the result's block, and the best caret so far in the next one. -/
structure MinI (w : World) (S : Nat → Prop) (lt : CarD → CarD → Bool) (ds : List CarD) (k : Nat) (wr : World) : Prop where
  bel : Below w.heap.size w wr
  size : w.heap.size + 2 ≤ wr.heap.size
  res : BoxL wr w.heap.size 0 [.slice none 0 0, .int .i64 0, .int .i64 0, .int .i64 0]
  fr : FreeB wr w.heap.size
  best : CarAtB wr w S (w.heap.size + 1) (ds.getD (bestK lt zeroC ds k) zeroC)
  frb : FreeB wr (w.heap.size + 1)
theorem MinI.to {w wr W : World} {S : Nat → Prop} {lt : CarD → CarD → Bool} {ds : List CarD} {k : Nat} (h : MinI w S lt ds k wr) (hb : Below wr.heap.size wr W) : MinI w S lt ds k W := by
  have h1 := h.size
  obtain ⟨A, c, h2, h3⟩ := h.best
  exact ⟨h.bel.trans (hb.mono h.bel.size), Nat.le_trans h1 hb.size, h.res.below hb (by omega), h.fr.below hb (by omega), ⟨A, c, h2.below hb (by omega), h3⟩, h.frb.below hb (by omega)⟩
set_option maxHeartbeats 8000000 in
theorem minf_any (ds : List CarD) (x y : Int) (A : Option Addr) (cap px py : Nat) (S : Nat → Prop) (w : World) (hS : ∀ k, S k → k < w.heap.size) (hv : CarsR w S ds (.slice A ds.length cap)) (hsm : ∀ d ∈ ds, d.Sm) (h0 : 0 < ds.length) (hx : lenOk x = true) (hy : lenOk y = true) (hpx : w.cell? ⟨px, 0, none⟩ = some (.int .i64 x)) (hpy : w.cell? ⟨py, 0, none⟩ = some (.int .i64 y)) :
    Calls Tryd.prog 47 #[.slice A ds.length cap, (.func (.func 48) #[] #[.pointer (some ⟨px, 0, none⟩), .pointer (some ⟨py, 0, none⟩)])] w (MinRes w S (ds.getD (bestK (hitLt x y) zeroC ds ds.length) zeroC)) := by
  have hlen := hv.lens
  unfold maxLen at hlen
  have hgx : px < w.heap.size := cIn hpx
  have hgy : py < w.heap.size := cIn hpy
  obtain ⟨_, _, rs, hq, _, _, hrd, hls⟩ := hv
  cases hq
  have HAT : Hid (∀ k (hk : k < ds.length) W, Below w.heap.size w W → ∃ g o A' c', A = some ⟨g, o, none⟩ ∧ g < w.heap.size ∧ W.cell? ⟨g, o + k * 4, none⟩ = some (.slice A' ds[k].pos.length c') ∧ W.cell? ⟨g, o + k * 4 + 1, none⟩ = some (.int .i64 ds[k].x) ∧ W.cell? ⟨g, o + k * 4 + 2, none⟩ = some (.int .i64 ds[k].top) ∧ W.cell? ⟨g, o + k * 4 + 3, none⟩ = some (.int .i64 ds[k].bottom) ∧ IntsR w S ds[k].pos (.slice A' ds[k].pos.length c')) := fun k hk W hW => by
    obtain ⟨g, o, A', c', e, hg, a0, a1, a2, a3, _, hi⟩ := carsAt hrd hls hk
    have hg' := hS g hg
    exact ⟨g, o, A', c', e, hg', (hW.cell (p := ⟨g, _, none⟩) hg').trans a0, (hW.cell (p := ⟨g, _, none⟩) hg').trans a1, (hW.cell (p := ⟨g, _, none⟩) hg').trans a2, (hW.cell (p := ⟨g, _, none⟩) hg').trans a3, hi⟩
  have HCC : Hid (∀ k (hk : k < ds.length) (j : Nat) (hj : j < ds.length) A1 n1 c1 A2 n2 c2 W, Below w.heap.size w W → Calls Tryd.prog 48 #[.agg #[.slice A1 n1 c1, .int .i64 ds[k].x, .int .i64 ds[k].top, .int .i64 ds[k].bottom], .agg #[.slice A2 n2 c2, .int .i64 ds[j].x, .int .i64 ds[j].top, .int .i64 ds[j].bottom], .pointer (some ⟨px, 0, none⟩), .pointer (some ⟨py, 0, none⟩)] W fun r w' => r = .returned (.int .i64 (hitC x y ds[k] ds[j])) ∧ Below W.heap.size W w') := fun k hk j hj A1 n1 c1 A2 n2 c2 W hW =>
    hcmp_any ds[k] ds[j] x y A1 A2 n1 c1 n2 c2 px py W (hsm _ (List.getElem_mem hk)) (hsm _ (List.getElem_mem hj)) hx hy ((hW.cell (p := ⟨px, 0, none⟩) hgx).trans hpx) ((hW.cell (p := ⟨py, 0, none⟩) hgy).trans hpy)
  obtain ⟨g, o, A1, c1, rfl, hg, a0, a1, a2, a3, hi1⟩ := HAT.out 0 h0 w (Below.refl _ _)
  obtain ⟨W0, hW0⟩ : ∃ W0, w.alloc (.cells #[.slice none 0 0, .int .i64 0, .int .i64 0, .int .i64 0] 42) = W0 := ⟨_, rfl⟩
  have hb0 : Below w.heap.size w W0 := by rw [← hW0]; exact bNew _ _
  have hz0 : W0.heap.size = w.heap.size + 1 := by rw [← hW0]; simp
  obtain ⟨W1, hW1⟩ : ∃ W1, W0.alloc (.cells #[.slice A1 ds[0].pos.length c1, .int .i64 ds[0].x, .int .i64 ds[0].top, .int .i64 ds[0].bottom] 42) = W1 := ⟨_, rfl⟩
  have HI1 : Hid (MinI w S (hitLt x y) ds 1 W1) := by
    show MinI w S (hitLt x y) ds 1 W1
    have hb1 : Below W0.heap.size W0 W1 := by rw [← hW1]; exact bNew _ _
    have hz1 : W1.heap.size = W0.heap.size + 1 := by rw [← hW1]; simp
    refine ⟨hb0.trans (hb1.mono hb0.size), by omega, ?_, ?_, ?_, ?_⟩
    · refine BoxL.below (w := W0) ?_ hb1 (by omega)
      rw [← hW0]
      exact BoxL.new _ _ _ _ rfl _ rfl
    · refine FreeB.below (w := W0) ?_ hb1 (by omega)
      rw [← hW0]
      exact FreeB.new _ _ _ _ rfl
    · rw [bestK_one, getD_at ds zeroC h0]
      refine ⟨A1, c1, ?_, hi1⟩
      rw [← hW1]
      exact BoxL.new _ _ _ _ hz0.symm _ rfl
    · rw [← hW1]
      exact FreeB.new _ _ _ _ hz0.symm
  have b0 := (hb0.cell (p := ⟨g, _, none⟩) hg).trans a0
  have b1 := (hb0.cell (p := ⟨g, _, none⟩) hg).trans a1
  have b2 := (hb0.cell (p := ⟨g, _, none⟩) hg).trans a2
  have b3 := (hb0.cell (p := ⟨g, _, none⟩) hg).trans a3
  simp only [Nat.zero_mul, Nat.add_zero] at b0 b1 b2 b3
  have i1 : decide ((ds.length : Int) < 1) = false := by rw [decide_eq_false_iff_not]; omega
  have i2 : (0 : Int) < (ds.length : Int) := by omega
  clear hrd hls hS hsm hx hy hpx hpy hgx hgy a0 a1 a2 a3 hi1 hb0
  go_enter Tryd.func47, Tryd.ntmps47
  go_upto_region 3 with fail
  try rw [hW0]
  go_upto_region 4 with fail
  try rw [hW1]
  clear hW0 hW1 b0 b1 b2 b3
  go_wp2_with fail
  go_loopw [6] (fun i wr => ∃ k : Nat, 1 ≤ k ∧ k ≤ ds.length ∧ i = .int .i64 k ∧ MinI w S (hitLt x y) ds k wr) (fun i _ => ds.length - (intOf i).toNat)
  case atStart => exact ⟨1, Nat.le_refl _, by omega, rfl, HI1.out⟩
  case round =>
    obtain ⟨k, hk1, hk, rfl, hI⟩ := hrel
    have HI := hid hI
    clear hI HI1
    rcases Nat.lt_or_ge k ds.length with hlt | hge
    · obtain ⟨ga, oa, Aa, ca, hA, hga, a0, a1, a2, a3, hia⟩ := HAT.out k hlt wr HI.out.bel
      cases hA
      have hj : bestK (hitLt x y) zeroC ds k < ds.length := by rcases bestK_lt (hitLt x y) zeroC ds k with h | h <;> omega
      obtain ⟨Am, cm, hbm, him⟩ := HI.out.best
      rw [getD_at ds zeroC hj] at hbm him
      have CC := hid (fun W hW => HCC.out k hlt (bestK (hitLt x y) zeroC ds k) hj Aa ds[k].pos.length ca Am ds[bestK (hitLt x y) zeroC ds k].pos.length cm W (HI.out.bel.trans (Below.mono hW HI.out.bel.size)))
      have HLT : Hid (decide (hitC x y ds[k] ds[bestK (hitLt x y) zeroC ds k] < 0) = hitLt x y ds[k] ds[bestK (hitLt x y) zeroC ds k]) := hitC_lt _ _ _ _
      have HN : Hid (bestK (hitLt x y) zeroC ds (k + 1) = if hitLt x y ds[k] ds[bestK (hitLt x y) zeroC ds k] = true then k else bestK (hitLt x y) zeroC ds k) := by
        show _ = _
        rw [bestK, getD_at ds zeroC hlt, getD_at ds zeroC hj]
      have m0 := hbm 0 _ rfl
      have m1 := hbm 1 _ rfl
      have m2 := hbm 2 _ rfl
      have m3 := hbm 3 _ rfl
      have f0 := HI.out.frb 0
      have f1 := HI.out.frb 1
      have f2 := HI.out.frb 2
      have f3 := HI.out.frb 3
      simp only [Nat.zero_add] at m0 m1 m2 m3
      have HIA := hid hia
      have HIM := hid him
      have i5 : decide ((k : Int) < (ds.length : Int)) = true := by rw [decide_eq_true_eq]; omega
      have i6 : (0 : Int) ≤ (k : Int) := by omega
      have i7 : (k : Int) < (ds.length : Int) := by omega
      obtain ⟨dk, hdk⟩ : ∃ d, ds[k] = d := ⟨_, rfl⟩
      obtain ⟨dm, hdm⟩ : ∃ d, ds[bestK (hitLt x y) zeroC ds k] = d := ⟨_, rfl⟩
      have HGK : Hid (ds.getD k zeroC = dk) := (getD_at ds zeroC hlt).trans hdk
      have HGM : Hid (ds.getD (bestK (hitLt x y) zeroC ds k) zeroC = dm) := (getD_at ds zeroC hj).trans hdm
      simp only [hdk, hdm] at a0 a1 a2 a3 m0 m1 m2 m3 CC HLT HN HIA HIM
      have KK : Hid (∀ W, Below wr.heap.size wr W → (W.cell? ⟨g, o + k * 4, none⟩ = some (.slice Aa dk.pos.length ca) ∧ W.cell? ⟨g, o + k * 4 + 1, none⟩ = some (.int .i64 dk.x) ∧ W.cell? ⟨g, o + k * 4 + 2, none⟩ = some (.int .i64 dk.top) ∧ W.cell? ⟨g, o + k * 4 + 3, none⟩ = some (.int .i64 dk.bottom)) ∧ (W.cell? ⟨w.heap.size + 1, 0, none⟩ = some (.slice Am dm.pos.length cm) ∧ W.cell? ⟨w.heap.size + 1, 1, none⟩ = some (.int .i64 dm.x) ∧ W.cell? ⟨w.heap.size + 1, 2, none⟩ = some (.int .i64 dm.top) ∧ W.cell? ⟨w.heap.size + 1, 3, none⟩ = some (.int .i64 dm.bottom)) ∧ MinI w S (hitLt x y) ds k W) := fun W hW => by
        have hgw : g < wr.heap.size := Nat.lt_of_lt_of_le hga HI.out.bel.size
        have hgm : w.heap.size + 1 < wr.heap.size := HI.out.size
        exact ⟨⟨(hW.cell (p := ⟨g, _, none⟩) hgw).trans a0, (hW.cell (p := ⟨g, _, none⟩) hgw).trans a1, (hW.cell (p := ⟨g, _, none⟩) hgw).trans a2, (hW.cell (p := ⟨g, _, none⟩) hgw).trans a3⟩, ⟨(hW.cell (p := ⟨w.heap.size + 1, _, none⟩) hgm).trans m0, (hW.cell (p := ⟨w.heap.size + 1, _, none⟩) hgm).trans m1, (hW.cell (p := ⟨w.heap.size + 1, _, none⟩) hgm).trans m2, (hW.cell (p := ⟨w.heap.size + 1, _, none⟩) hgm).trans m3⟩, HI.out.to hW⟩
      clear hbm him hia hdk hdm HAT HCC
      generalize hitC x y dk dm = hc at *
      cases hb : hitLt x y dk dm with
      | true =>
        have HN' : Hid (ds.getD (bestK (hitLt x y) zeroC ds (k + 1)) zeroC = dk) := by show _ = _; rw [HN.out, if_pos hb]; exact HGK.out
        have i8 : decide (hc < 0) = true := HLT.out.trans hb
        clear HN HLT hb HGM HGK
        go_wp2_with fail
        go_region_held3 (fun w' => w'.cell? ⟨g, o + k * 4, none⟩ = some (.slice Aa dk.pos.length ca) ∧ w'.cell? ⟨g, o + k * 4 + 1, none⟩ = some (.int .i64 dk.x) ∧ w'.cell? ⟨g, o + k * 4 + 2, none⟩ = some (.int .i64 dk.top) ∧ w'.cell? ⟨g, o + k * 4 + 3, none⟩ = some (.int .i64 dk.bottom) ∧ w'.cell? ⟨w.heap.size + 1, 0, none⟩ = some (.slice Am dm.pos.length cm) ∧ w'.cell? ⟨w.heap.size + 1, 1, none⟩ = some (.int .i64 dm.x) ∧ w'.cell? ⟨w.heap.size + 1, 2, none⟩ = some (.int .i64 dm.top) ∧ w'.cell? ⟨w.heap.size + 1, 3, none⟩ = some (.int .i64 dm.bottom)) (go_keep) (first
          | (go_at_call 48; (with_reducible refine (CC.out _ (Below.refl _ _).drew).mono ?_); rintro r0 w5 ⟨rfl, hb5⟩; have HB5 : Hid (Below wr.heap.size wr w5) := bDr hb5; clear hb5; obtain ⟨⟨a0, a1, a2, a3⟩, ⟨m0, m1, m2, m3⟩, _⟩ := KK.out w5 HB5.out)
          | (go_at_call 48; (with_reducible refine (CC.out _ (Below.refl _ _)).mono ?_); rintro r0 w5 ⟨rfl, hb5⟩; have HB5 := hid hb5; clear hb5; obtain ⟨⟨a0, a1, a2, a3⟩, ⟨m0, m1, m2, m3⟩, _⟩ := KK.out w5 HB5.out)
          | fail)
        all_goals
          have f0 := (KK.out w5 HB5.out).2.2.frb 0
          have f1 := (KK.out w5 HB5.out).2.2.frb 1
          have f2 := (KK.out w5 HB5.out).2.2.frb 2
          have f3 := (KK.out w5 HB5.out).2.2.frb 3
          have HI5 := hid (KK.out w5 HB5.out).2.2
          go_upto_region 6 with fail
          generalize hW : (((w5.setCell _ (.slice Aa dk.pos.length ca)).setCell _ (.int .i64 dk.x)).setCell _ (.int .i64 dk.top)).setCell _ (.int .i64 dk.bottom) = WE
          obtain ⟨⟨z0, z1, z2, z3⟩, rz, rb, ro, rf⟩ := four m0 m1 m2 m3 _ _ _ _ hW.symm
          have HWE : Hid (MinI w S (hitLt x y) ds (k + 1) WE) := by
            show MinI _ _ _ _ _ _
            have h5 := HI5.out
            refine ⟨rb w.heap.size w (by omega) h5.bel, by rw [rz]; exact h5.size, ?_, ?_, ?_, ?_⟩
            · intro j u hu
              rw [ro ⟨w.heap.size, _, none⟩ (by simp)]
              exact h5.res j u hu
            · intro j
              rw [rf]
              exact h5.fr j
            · rw [HN'.out]
              exact ⟨Aa, ca, box4 z0 z1 z2 z3, HIA.out⟩
            · intro j
              rw [rf]
              exact h5.frb j
          clear hW ro rb rz rf z0 z1 z2 z3
          go_wp2_with fail
          go_roundw
          case rel => exact ⟨k + 1, by omega, by omega, by go_num, HWE.out⟩
          case measure => simp [intOf]; omega
      | false =>
        have HN' : Hid (ds.getD (bestK (hitLt x y) zeroC ds (k + 1)) zeroC = ds.getD (bestK (hitLt x y) zeroC ds k) zeroC) := by show _ = _; rw [HN.out, if_neg (by simp [hb])]
        have i8 : decide (hc < 0) = false := HLT.out.trans hb
        clear HN HLT hb HGM HGK
        go_wp2_with fail
        go_region_held3 (fun w' => w'.cell? ⟨g, o + k * 4, none⟩ = some (.slice Aa dk.pos.length ca) ∧ w'.cell? ⟨g, o + k * 4 + 1, none⟩ = some (.int .i64 dk.x) ∧ w'.cell? ⟨g, o + k * 4 + 2, none⟩ = some (.int .i64 dk.top) ∧ w'.cell? ⟨g, o + k * 4 + 3, none⟩ = some (.int .i64 dk.bottom) ∧ w'.cell? ⟨w.heap.size + 1, 0, none⟩ = some (.slice Am dm.pos.length cm) ∧ w'.cell? ⟨w.heap.size + 1, 1, none⟩ = some (.int .i64 dm.x) ∧ w'.cell? ⟨w.heap.size + 1, 2, none⟩ = some (.int .i64 dm.top) ∧ w'.cell? ⟨w.heap.size + 1, 3, none⟩ = some (.int .i64 dm.bottom)) (go_keep) (first
          | (go_at_call 48; (with_reducible refine (CC.out _ (Below.refl _ _).drew).mono ?_); rintro r0 w5 ⟨rfl, hb5⟩; have HB5 : Hid (Below wr.heap.size wr w5) := bDr hb5; clear hb5; obtain ⟨⟨a0, a1, a2, a3⟩, ⟨m0, m1, m2, m3⟩, _⟩ := KK.out w5 HB5.out)
          | (go_at_call 48; (with_reducible refine (CC.out _ (Below.refl _ _)).mono ?_); rintro r0 w5 ⟨rfl, hb5⟩; have HB5 := hid hb5; clear hb5; obtain ⟨⟨a0, a1, a2, a3⟩, ⟨m0, m1, m2, m3⟩, _⟩ := KK.out w5 HB5.out)
          | fail)
        all_goals
          have HI5 : Hid (MinI w S (hitLt x y) ds (k + 1) w5) := by
            have h5 := (KK.out w5 HB5.out).2.2
            exact ⟨h5.bel, h5.size, h5.res, h5.fr, by rw [HN'.out]; exact h5.best, h5.frb⟩
          go_wp2_with fail
          go_roundw
          case rel => exact ⟨k + 1, by omega, by omega, by go_num, HI5.out⟩
          case measure => simp [intOf]; omega
    · have i5 : decide ((k : Int) < (ds.length : Int)) = false := by rw [decide_eq_false_iff_not]; omega
      have hk' : k = ds.length := by omega
      obtain ⟨Am, cm, hbm, him⟩ := HI.out.best
      rw [hk'] at hbm him
      have HIM := hid him
      generalize ds.getD (bestK (hitLt x y) zeroC ds ds.length) zeroC = dm at *
      have m0 := hbm 0 _ rfl
      have m1 := hbm 1 _ rfl
      have m2 := hbm 2 _ rfl
      have m3 := hbm 3 _ rfl
      have r0 := HI.out.res 0 _ rfl
      have r1 := HI.out.res 1 _ rfl
      have r2 := HI.out.res 2 _ rfl
      have r3 := HI.out.res 3 _ rfl
      have f0 := HI.out.fr 0
      have f1 := HI.out.fr 1
      have f2 := HI.out.fr 2
      have f3 := HI.out.fr 3
      simp only [Nat.zero_add] at m0 m1 m2 m3 r0 r1 r2 r3
      clear hbm him hk' HAT HCC
      go_wp2_with fail
      generalize hW : (((wr.setCell _ (.slice Am dm.pos.length cm)).setCell _ (.int .i64 dm.x)).setCell _ (.int .i64 dm.top)).setCell _ (.int .i64 dm.bottom) = WE
      obtain ⟨⟨z0, z1, z2, z3⟩, rz, rb, ro, _⟩ := four r0 r1 r2 r3 _ _ _ _ hW.symm
      have HB' := hid (rb w.heap.size w (by omega) HI.out.bel)
      clear hW ro rb rz
      refine bodyPost_ret (v := .agg #[.slice Am dm.pos.length cm, .int .i64 dm.x, .int .i64 dm.top, .int .i64 dm.bottom]) (by simp [results, Tryd.results47, go_sem, z0, z1, z2, z3]) rfl ?_
      exact ⟨_, rfl, HIM.out, HB'.out⟩
end Go.Proofs.YtmahiejfniaahaaDoor
