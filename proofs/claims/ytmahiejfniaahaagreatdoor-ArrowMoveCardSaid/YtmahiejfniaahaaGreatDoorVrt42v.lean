/- ref42.vertical. Written by wip/genr42.py. -/
import Derived.Test.YtmahiejfniaahaaGreatDoorFar42v
import Derived.Test.YtmahiejfniaahaaGreatDoorHN
import Derived.Test.YtmahiejfniaahaaGreatDoorRAlv
import Derived.Test.YtmahiejfniaahaaGreatDoorGN
import Derived.Test.YtmahiejfniaahaaGreatDoorVrtv
import Derived.Laws.EntriesVeiled
import Derived.Deep.RegionHeld3
set_option linter.unusedVariables false
set_option linter.unusedSimpArgs false
set_option maxRecDepth 100000
namespace Go.Proofs.YtmahiejfniaahaaGreatDoor
open Go.RowKit
theorem row42_q (A : Option Addr) (n c : Nat) (hc : n + 1 ≤ c) (hn : n ≤ 9223372036854775806) : ∃ A', (∀ W, Calls Tryz.prog 35 #[.slice A (n + 1) c] W fun e w' => e = .returned (.slice A' n c) ∧ ∃ k, w' = W.drewN k) ∧
    (∀ w S (xs : List Int), IntsR w S xs (.slice A (n + 1) c) → IntsR w S (xs.take n) (.slice A' n c)) := by
  obtain ⟨A', hsl, hcut⟩ := cut_h intE Tryz.underlying26 size_int A (n + 1) c n n rfl (by omega) hc
  refine ⟨A', fun W => ?_, hcut⟩
  clear hcut
  go_enter Tryz.func35, Tryz.ntmps35
  go_wp2_with fail
  go_ret
  exact ⟨rfl, 0, rfl⟩
theorem ints_cap2 {w : World} {S : Nat → Prop} {xs : List Int} {A : Option Addr} {n c : Nat} (h : IntsR w S xs (.slice A n c)) : n ≤ c ∧ n = xs.length := by
  obtain ⟨A, cap, cs, e, h1, _⟩ := h; injection e with _ e2 e3; subst e2 e3; exact ⟨h1, rfl⟩
def BestR (L : List CarD) (f : CarD → Int) (c : CarD → Bool) (k : Nat) (bi : Int) : Prop := (leastBy f ((L.take k).filter c) = none ∧ bi = -1) ∨ ∃ j, ∃ h : j < L.length, leastBy f ((L.take k).filter c) = some L[j] ∧ bi = (j : Int)
theorem filter_take {L : List CarD} (c : CarD → Bool) {k : Nat} (hk : k < L.length) : (L.take (k + 1)).filter c = (L.take k).filter c ++ (if c L[k] = true then [L[k]] else []) := by
  rw [List.take_succ_eq_append_getElem hk, List.filter_append]
  congr 1
  simp only [List.filter_cons, List.filter_nil]
theorem best_skip {L : List CarD} {f : CarD → Int} {c : CarD → Bool} {k : Nat} {bi : Int} (h : BestR L f c k bi) (hk : k < L.length) (hc : c L[k] = false) : BestR L f c (k + 1) bi := by
  unfold BestR at *
  rw [filter_take c hk, hc]
  simpa using h
theorem best_first {L : List CarD} {f : CarD → Int} {c : CarD → Bool} {k : Nat} (h : leastBy f ((L.take k).filter c) = none) (hk : k < L.length) (hc : c L[k] = true) : BestR L f c (k + 1) (k : Int) := by
  refine .inr ⟨k, hk, ?_, rfl⟩
  rw [filter_take c hk, hc, if_pos rfl, leastBy_snoc, h]
  rfl
theorem best_new {L : List CarD} {f : CarD → Int} {c : CarD → Bool} {k j : Nat} {hj : j < L.length} (h : leastBy f ((L.take k).filter c) = some L[j]) (hk : k < L.length) (hc : c L[k] = true) (hl : f L[k] < f L[j]) : BestR L f c (k + 1) (k : Int) := by
  refine .inr ⟨k, hk, ?_, rfl⟩
  rw [filter_take c hk, hc, if_pos rfl, leastBy_snoc, h, leastStep]
  rw [if_pos hl]
theorem best_old {L : List CarD} {f : CarD → Int} {c : CarD → Bool} {k j : Nat} {hj : j < L.length} (h : leastBy f ((L.take k).filter c) = some L[j]) (hk : k < L.length) (hc : c L[k] = true) (hl : ¬ f L[k] < f L[j]) : BestR L f c (k + 1) (j : Int) := by
  refine .inr ⟨j, hj, ?_, rfl⟩
  rw [filter_take c hk, hc, if_pos rfl, leastBy_snoc, h, leastStep]
  rw [if_neg hl]
set_option maxHeartbeats 8000000 in
theorem rvert_any (t : Tree) (b : Bx) (q : List Int) (px sign : Int) (A Ak As Ap : Option Addr) (cap ck cs cp pn : Nat) (w : World) (hv : SliceR treeE w (Lt w.heap.size) t.kids (.slice A t.kids.length cap)) (htx : t.text.size ≤ maxLen) (hct : countS t ≤ 900000) (hb : BoxIn w b Ak As ck cs) (hcb : cntB b ≤ 1000000) (hpn : pn = q.length + 1) (hp : IntsR w (Lt w.heap.size) (q ++ [px]) (.slice Ap pn cp)) (hvt : validS t = true) (hvb : validB b = true) (hpi : posIn t (q ++ [px]) = true) (hsg : sign = 1 ∨ sign = -1) :
    Calls Tryz.prog 67 #[nodeV t A cap, boxV b Ak As ck cs, .slice Ap pn cp, .int .i64 sign] w (PosRes w (vertR t b (q ++ [px]) sign)) := by
  have hpq : (q ++ [px]).length = pn := by rw [hpn]; simp
  have CA : Hid (∀ W, Below w.heap.size w W → Calls Tryz.prog 18 #[nodeV t A cap, boxV b Ak As ck cs] W (CarsRes W (carsR t b))) := fun W hW => rcall_any t b A Ak As cap ck cs W (hv.below hW hW.size) htx hct (hb.below hW) hcb
  have CPL : Hid (∀ W, Below w.heap.size w W → Calls Tryz.prog 14 #[nodeV t A cap, boxV b Ak As ck cs, .slice Ap pn cp] W (CarRes W (placeR t b (q ++ [px])))) := fun W hW => by
    have h := rplace_any t b (q ++ [px]) A Ak As Ap cap ck cs cp W (hv.below hW hW.size) htx hct (hb.below hW) hcb (by rw [hpq]; exact hp.below hW hW.size)
    rw [hpq] at h
    exact h
  generalize hW0 : ((w.alloc (Obj.cells #[.int .i64 t.kind, .string t.text, .int .i64 t.cols, .slice A t.kids.length cap] 24)).alloc (Obj.cells (boxC b.f (.slice Ak b.kids.length ck) (.slice As b.f.src.length cs)) 28)) = W0
  have KB : Hid (∀ W, Below W0.heap.size W0 W → Laid2 W w.heap.size w.heap.size t b A Ak As cap ck cs ∧ Below w.heap.size w W ∧ w.heap.size + 1 < W.heap.size) := fun W hW => by
    have hz0 : W0.heap.size = w.heap.size + 2 := by rw [← hW0]; simp
    have h1 := Laid2.new w t b A Ak As cap ck cs 24 28 hv hb
    have h3 : Below w.heap.size w W0 := by rw [← hW0]; exact bAl (bNew _ _) _
    rw [hW0] at h1
    exact ⟨h1.below hW (by omega) (by omega), h3.trans (hW.mono h3.size), by have := hW.size; omega⟩
  have HPP : Hid (IntsR w (Lt w.heap.size) (q ++ [px]) (.slice Ap pn cp)) := hp
  have HPN := hid hpn
  have HPB : Hid (∀ e, placeP t b (q ++ [px]) = some e → placeR t b (q ++ [px]) = (e, 0)) := fun e he => by
    rw [placeR, if_neg (by simp [hvt, hvb]), if_neg (by simp [hpi]), he]
  rcases carsR_cases (two_true hvt hvb) with hcr | ⟨L, hcr, hcl, hsm, h0⟩
  · have HR : Hid (vertR t b (q ++ [px]) sign = ([], 8)) := vertR_no hcr
    rw [hcr] at CA
    generalize vertR t b (q ++ [px]) sign = r at *
    clear hv htx hb hct hcb hp hvt hvb hpi hsg hcr hpn hpq
    obtain ⟨hl2, hbw, hgz⟩ := KB.out W0 (Below.refl _ _)
    have m0 := hl2.node 0 _ rfl
    have m1 := hl2.node 1 _ rfl
    have m2 := hl2.node 2 _ rfl
    have m3 := hl2.node 3 _ rfl
    have n0 := hl2.box 0 _ rfl
    have n1 := hl2.box 1 _ rfl
    have n2 := hl2.box 2 _ rfl
    have n3 := hl2.box 3 _ rfl
    have n4 := hl2.box 4 _ rfl
    have n5 := hl2.box 5 _ rfl
    have n6 := hl2.box 6 _ rfl
    have n7 := hl2.box 7 _ rfl
    have n8 := hl2.box 8 _ rfl
    have n9 := hl2.box 9 _ rfl
    have n10 := hl2.box 10 _ rfl
    simp only [Nat.zero_add] at m0 m1 m2 m3 n0 n1 n2 n3 n4 n5 n6 n7 n8 n9 n10
    have HBW_W0 := hid hbw
    clear hl2 hbw hgz
    go_enter Tryz.func67, Tryz.ntmps67
    go_wp2_with fail
    clear hW0
    refine (CA.out _ HBW_W0.out).mono ?_
    rintro e0 w1 ⟨hb1, v1, rfl, hr1⟩
    obtain ⟨A1, c1, rfl⟩ := hr1.form
    have HT1 := hid hb1
    have HR1 := hid hr1
    clear hb1 hr1
    clear m0 m1 m2 m3 n0 n1 n2 n3 n4 n5 n6 n7 n8 n9 n10
    obtain ⟨hl2, hbw, hgz⟩ := KB.out w1 HT1.out
    have m0 := hl2.node 0 _ rfl
    have m1 := hl2.node 1 _ rfl
    have m2 := hl2.node 2 _ rfl
    have m3 := hl2.node 3 _ rfl
    have n0 := hl2.box 0 _ rfl
    have n1 := hl2.box 1 _ rfl
    have n2 := hl2.box 2 _ rfl
    have n3 := hl2.box 3 _ rfl
    have n4 := hl2.box 4 _ rfl
    have n5 := hl2.box 5 _ rfl
    have n6 := hl2.box 6 _ rfl
    have n7 := hl2.box 7 _ rfl
    have n8 := hl2.box 8 _ rfl
    have n9 := hl2.box 9 _ rfl
    have n10 := hl2.box 10 _ rfl
    simp only [Nat.zero_add] at m0 m1 m2 m3 n0 n1 n2 n3 n4 n5 n6 n7 n8 n9 n10
    have HBW_w1 := hid hbw
    clear hl2 hbw hgz
    go_wp2_with fail
    go_ret2
    exact ⟨HBW_w1.out, .slice none 0 0, by rw [HR.out]; rfl, by rw [HR.out]; exact SliceR.nil_ 0 (Nat.zero_le _) none⟩
  · obtain ⟨k0, hk0, hkp⟩ := cars_has (t := t) hvb hcl hpi
    have hown := cars_own (t := t) hvb hcl
    have he0 := (hown k0 hk0).1
    rw [hkp] at he0
    have HSE := hid (hsm _ (List.getElem_mem hk0))
    have hvr := vertR_some (sign := sign) hcr he0
    have hplr := HPB.out _ he0
    generalize L[k0] = e at *
    rw [hplr] at CPL
    rw [hcr] at CA
    have HR : Hid (vertR t b (q ++ [px]) sign = match leastBy (farS · e) (L.filter (candS q e sign)) with | none => ([], 8) | some d => (d.pos, 0)) := hvr
    have HSM := hid hsm
    have HNE : Hid (∀ d ∈ L, d.pos ≠ []) := fun d hd => by
      obtain ⟨j, hj, hje⟩ := List.mem_iff_getElem.1 hd
      have := (hown j hj).2
      rw [hje] at this
      obtain ⟨q', x', h⟩ := posIn_ne this
      rw [h]
      simp
    have HSG := hid hsg
    generalize vertR t b (q ++ [px]) sign = r at *
    clear hv htx hb hct hcb hp hvt hvb hpi hsg hcr hpn hpq hown he0 hvr hplr hkp hk0 hcl hsm HPB h0
    obtain ⟨hl2, hbw, hgz⟩ := KB.out W0 (Below.refl _ _)
    have m0 := hl2.node 0 _ rfl
    have m1 := hl2.node 1 _ rfl
    have m2 := hl2.node 2 _ rfl
    have m3 := hl2.node 3 _ rfl
    have n0 := hl2.box 0 _ rfl
    have n1 := hl2.box 1 _ rfl
    have n2 := hl2.box 2 _ rfl
    have n3 := hl2.box 3 _ rfl
    have n4 := hl2.box 4 _ rfl
    have n5 := hl2.box 5 _ rfl
    have n6 := hl2.box 6 _ rfl
    have n7 := hl2.box 7 _ rfl
    have n8 := hl2.box 8 _ rfl
    have n9 := hl2.box 9 _ rfl
    have n10 := hl2.box 10 _ rfl
    simp only [Nat.zero_add] at m0 m1 m2 m3 n0 n1 n2 n3 n4 n5 n6 n7 n8 n9 n10
    have HBW_W0 := hid hbw
    clear hl2 hbw hgz
    go_enter Tryz.func67, Tryz.ntmps67
    go_wp2_with fail
    clear hW0
    refine (CA.out _ HBW_W0.out).mono ?_
    rintro e0 w1 ⟨hb1, v1, rfl, hr1⟩
    obtain ⟨A1, c1, rfl⟩ := hr1.form
    have HT1 := hid hb1
    have HR1 := hid hr1
    clear hb1 hr1
    clear m0 m1 m2 m3 n0 n1 n2 n3 n4 n5 n6 n7 n8 n9 n10
    obtain ⟨hl2, hbw, hgz⟩ := KB.out w1 HT1.out
    have m0 := hl2.node 0 _ rfl
    have m1 := hl2.node 1 _ rfl
    have m2 := hl2.node 2 _ rfl
    have m3 := hl2.node 3 _ rfl
    have n0 := hl2.box 0 _ rfl
    have n1 := hl2.box 1 _ rfl
    have n2 := hl2.box 2 _ rfl
    have n3 := hl2.box 3 _ rfl
    have n4 := hl2.box 4 _ rfl
    have n5 := hl2.box 5 _ rfl
    have n6 := hl2.box 6 _ rfl
    have n7 := hl2.box 7 _ rfl
    have n8 := hl2.box 8 _ rfl
    have n9 := hl2.box 9 _ rfl
    have n10 := hl2.box 10 _ rfl
    simp only [Nat.zero_add] at m0 m1 m2 m3 n0 n1 n2 n3 n4 n5 n6 n7 n8 n9 n10
    have HBW_w1 := hid hbw
    clear hl2 hbw hgz
    have hlen := HR1.out.lens
    unfold maxLen at hlen
    go_wp2_with fail
    refine (CPL.out _ HBW_w1.out).mono ?_
    rintro e0 w2 ⟨hb2, v2, rfl, hi2⟩
    obtain ⟨Ah, ch, hv2⟩ := hi2.form
    subst hv2
    have HB12 := hid hb2
    clear hb2 hi2
    clear m0 m1 m2 m3 n0 n1 n2 n3 n4 n5 n6 n7 n8 n9 n10
    go_upto_region 5 with fail
    generalize e.pos.length = nh at *
    obtain ⟨X2, hX2⟩ : ∃ W, w2.alloc (.cells #[.slice Ah nh ch, .int .i64 e.x, .int .i64 e.top, .int .i64 e.bottom] 36) = W := ⟨_, rfl⟩
    have hbx2 : Below w2.heap.size w2 X2 := by rw [← hX2]; exact bNew _ _
    have hx2 : BoxL X2 w2.heap.size 0 [.slice Ah nh ch, .int .i64 e.x, .int .i64 e.top, .int .i64 e.bottom] ∧ w2.heap.size < X2.heap.size := by rw [← hX2]; exact ⟨BoxL.new _ _ _ _ rfl _ rfl, by simp⟩
    have HX2 := hid hx2
    have HB1X : Hid (Below w1.heap.size w1 X2) := bCl HB12.out hbx2
    have HTX := hid (bCl HT1.out HB1X.out)
    try rw [hX2]
    clear hX2 hbx2 hx2
    generalize hgh : w2.heap.size = gh at *
    clear hgh
    go_wp2_with fail
    go_loopw [14, 15] (fun bi i wr => Below X2.heap.size X2 wr ∧ ∃ k : Nat, k ≤ L.length ∧ i = .int .i64 k ∧ ∃ bj : Int, bi = .int .i64 bj ∧ BestR L (farS · e) (candS q e sign) k bj) (fun _ i _ => L.length - (intOf i).toNat)
    case atStart => exact ⟨Below.refl _ _, 0, Nat.zero_le _, rfl, -1, rfl, .inl ⟨rfl, rfl⟩⟩
    case round =>
      obtain ⟨hbr, k, hk, rfl, bj, rfl, hbest⟩ := hrel
      have HBR := hid hbr
      have HBST := hid hbest
      clear hbest
      rcases Nat.lt_or_ge k L.length with hlt | hge
      · obtain ⟨_, _, rs, hq, _, _, hrd, hls⟩ := HR1.out
        cases hq
        obtain ⟨g, o, Ak_, ck_, hA, hg', a0, a1, a2, a3, _, hia⟩ := carsAt hrd hls hlt
        subst hA
        have hg : g < w1.heap.size := hg'.2
        have hsk := HSM.out _ (List.getElem_mem hlt)
        have hnk := HNE.out _ (List.getElem_mem hlt)
        have i5 : decide ((k : Int) < (L.length : Int)) = true := by rw [decide_eq_true_eq]; omega
        have i6 : (0 : Int) ≤ (k : Int) := by omega
        have i7 : (k : Int) < (L.length : Int) := by omega
        have HSKIP : Hid (candS q e sign L[k] = false → BestR L (farS · e) (candS q e sign) (k + 1) bj) := fun h => best_skip HBST.out hlt h
        have HFIRST : Hid (candS q e sign L[k] = true → bj = -1 → BestR L (farS · e) (candS q e sign) (k + 1) (k : Int)) := fun h hb => by
          rcases HBST.out with ⟨h1, _⟩ | ⟨j, hj, h1, h2⟩
          · exact best_first h1 hlt h
          · omega
        have HNEW : Hid (∀ j (hj : j < L.length), bj = (j : Int) → candS q e sign L[k] = true → farS L[k] e < farS L[j] e → BestR L (farS · e) (candS q e sign) (k + 1) (k : Int)) := fun j hj hb h hf => by
          rcases HBST.out with ⟨_, h1⟩ | ⟨j', hj', h1, h2⟩
          · omega
          · obtain rfl : j = j' := by omega
            exact best_new h1 hlt h hf
        have HOLD : Hid (∀ j (hj : j < L.length), bj = (j : Int) → candS q e sign L[k] = true → ¬ farS L[k] e < farS L[j] e → BestR L (farS · e) (candS q e sign) (k + 1) bj) := fun j hj hb h hf => by
          rcases HBST.out with ⟨_, h1⟩ | ⟨j', hj', h1, h2⟩
          · omega
          · obtain rfl : j = j' := by omega
            rw [hb]
            exact best_old h1 hlt h hf
        have HBJ : Hid (bj = -1 ∨ ∃ j, ∃ hj : j < L.length, bj = (j : Int)) := by
          rcases HBST.out with ⟨_, h1⟩ | ⟨j, hj, _, h2⟩
          · exact .inl h1
          · exact .inr ⟨j, hj, h2⟩
        have HAT := hid (fun j (hj : j < L.length) => carsAt hrd hls hj)
        have HSMJ := HSM
        generalize hdk : L[k] = dk at *
        have hql : 0 < dk.pos.length := List.length_pos_iff.2 hnk
        obtain ⟨m, hm⟩ : ∃ m, dk.pos.length = m + 1 := ⟨dk.pos.length - 1, by omega⟩
        rw [hm] at a0
        have hia2 : IntsR w1 (fun k => W0.heap.size ≤ k ∧ k < w1.heap.size) dk.pos (.slice Ak_ (m + 1) ck_) := by rw [← hm]; exact hia
        have hca := (ints_cap2 hia2).1
        have hml := hia.lens
        unfold maxLen at hml
        obtain ⟨A5, CRA0, hcutA⟩ := row42_q Ak_ m ck_ hca (by omega)
        have hcp := (ints_cap2 HPP.out)
        have hpm := HPP.out.lens
        have hpn : pn = q.length + 1 := HPN.out
        have hpl2 : (q ++ [px]).length ≤ maxLen := by
          obtain ⟨_, _, _, hq, h1, hmx, _⟩ := HPP.out
          cases hq
          exact Nat.le_trans h1 hmx
        unfold maxLen at hpl2
        obtain ⟨A6, CRB0, hcutB⟩ := row42_q Ap q.length cp (by omega) (by simp at hpl2; omega)
        have hra : IntsR w1 (fun k => W0.heap.size ≤ k ∧ k < w1.heap.size) dk.pos.dropLast (.slice A5 m ck_) := by
          have h := hcutA _ _ _ hia2
          rwa [show dk.pos.take m = dk.pos.dropLast by rw [List.dropLast_eq_take, hm]; rfl] at h
        have hrb : IntsR w (Lt w.heap.size) q (.slice A6 q.length cp) := by
          have h := hcutB w _ _ (show IntsR w (Lt w.heap.size) (q ++ [px]) (.slice Ap (q.length + 1) cp) by rw [← hpn]; exact HPP.out)
          rwa [List.take_left' rfl] at h
        have HB1R : Hid (Below w1.heap.size w1 wr) := bCl HB1X.out HBR.out
        have HWR : Hid (Below w.heap.size w wr) := (KB.out wr (bCl HTX.out HBR.out)).2.1
        have hmd : dk.pos.dropLast.length = m := by simp [hm]
        have CSI : Hid (∀ W', Below wr.heap.size wr W' → Calls Tryz.prog 25 #[.slice A5 m ck_, .slice A6 q.length cp] W' fun r w'' => r = .returned (.bool (decide (dk.pos.dropLast = q))) ∧ ∃ n, w'' = W'.drewN n) := fun W' hW' => by
          have h1 := bCl HB1R.out hW'
          have h2 := bCl HWR.out hW'
          have h := sameI_q dk.pos.dropLast q W' _ _ A5 A6 ck_ cp (by rw [hmd]; exact hra.keep (fun p hp => h1.cell hp.2) (fun _ h => h)) (hrb.keep (fun p hp => h2.cell hp) (fun _ h => h))
          rw [hmd] at h
          exact h
        have CRA := hid CRA0
        have CRB : Hid (∀ W, Calls Tryz.prog 35 #[.slice Ap pn cp] W fun e w' => e = .returned (.slice A6 q.length cp) ∧ ∃ k, w' = W.drewN k) := by rw [hpn]; exact CRB0
        have CLD : Hid (∀ W, Calls Tryz.prog 100 #[.agg #[.slice Ak_ (m + 1) ck_, .int .i64 dk.x, .int .i64 dk.top, .int .i64 dk.bottom]] W fun r w' => r = .returned (.int .i64 (levS dk)) ∧ Below W.heap.size W w') := fun W => (rlevel_any dk Ak_ (m + 1) ck_ W hsk).mono fun e w' h => ⟨h.1, h.2 ▸ bNew _ _⟩
        have CLE : Hid (∀ W, Calls Tryz.prog 100 #[.agg #[.slice Ah nh ch, .int .i64 e.x, .int .i64 e.top, .int .i64 e.bottom]] W fun r w' => r = .returned (.int .i64 (levS e)) ∧ Below W.heap.size W w') := fun W => (rlevel_any e Ah nh ch W HSE.out).mono fun e w' h => ⟨h.1, h.2 ▸ bNew _ _⟩
        have CFK : Hid (∀ W, Calls Tryz.prog 101 #[.agg #[.slice Ak_ (m + 1) ck_, .int .i64 dk.x, .int .i64 dk.top, .int .i64 dk.bottom], .agg #[.slice Ah nh ch, .int .i64 e.x, .int .i64 e.top, .int .i64 e.bottom]] W fun r w' => r = .returned (.int .i64 (farS dk e)) ∧ Below W.heap.size W w') := fun W => rfar_any dk e Ak_ Ah (m + 1) ck_ nh ch W hsk HSE.out
        have K9 : Hid (∀ w', Below wr.heap.size wr w' → w'.cell? ⟨g, o + k * 4, none⟩ = some (.slice Ak_ (m + 1) ck_) ∧ w'.cell? ⟨g, o + k * 4 + 1, none⟩ = some (.int .i64 dk.x) ∧ w'.cell? ⟨g, o + k * 4 + 2, none⟩ = some (.int .i64 dk.top) ∧ w'.cell? ⟨g, o + k * 4 + 3, none⟩ = some (.int .i64 dk.bottom) ∧ w'.cell? ⟨gh, 0, none⟩ = some (.slice Ah nh ch) ∧ w'.cell? ⟨gh, 1, none⟩ = some (.int .i64 e.x) ∧ w'.cell? ⟨gh, 2, none⟩ = some (.int .i64 e.top) ∧ w'.cell? ⟨gh, 3, none⟩ = some (.int .i64 e.bottom)) := fun W' hW' => by
          have h1 := bCl HB1R.out hW'
          have hx := HX2.out.1.below (bCl HBR.out hW') HX2.out.2
          have x0 := hx 0 _ rfl
          have x1 := hx 1 _ rfl
          have x2 := hx 2 _ rfl
          have x3 := hx 3 _ rfl
          simp only [Nat.zero_add] at x0 x1 x2 x3
          exact ⟨(h1.cell (p := ⟨g, _, none⟩) hg).trans a0, (h1.cell (p := ⟨g, _, none⟩) hg).trans a1, (h1.cell (p := ⟨g, _, none⟩) hg).trans a2, (h1.cell (p := ⟨g, _, none⟩) hg).trans a3, x0, x1, x2, x3⟩
        have hcand : candS q e sign dk = (!decide (dk.pos.dropLast = q) && decide (0 < sign * (levS dk - levS e))) := rfl
        have HC0 := hid hcand
        have hld := hsk.lev
        have hle := HSE.out.lev
        have v1 : IntKind.i64.wrap (levS dk - levS e) = levS dk - levS e := IntWalk.i64_in _ (by omega)
        obtain ⟨sd, hsd⟩ : ∃ sd, (levS dk - levS e) * sign = sd := ⟨_, rfl⟩
        have v2 : IntKind.i64.wrap ((levS dk - levS e) * sign) = sd := by
          rw [← hsd]
          rcases HSG.out with h | h <;> rw [h] <;> exact IntWalk.i64_in _ (by omega)
        have HC : Hid (candS q e sign dk = (!decide (dk.pos.dropLast = q) && decide (0 < sd))) := by show _ = _; rw [HC0.out, Int.mul_comm, hsd]
        clear hrd hls a0 a1 a2 a3 hia hia2 hca hml hcutA hcutB hcp hpm hpn hpl2 hra hrb hmd hcand HC0 hld hle hsd CRA0 CRB0 hm hql hnk hg' hbr
        obtain ⟨a0, a1, a2, a3, h0, h1, h2, h3⟩ := K9.out wr (Below.refl _ _)
        generalize hcb : candS q e sign dk = cb at *
        clear hcb
        cases hsame : decide (dk.pos.dropLast = q) with
        | true =>
          rw [hsame] at CSI HC
          have HB := hid (HSKIP.out (by rw [HC.out]; rfl))
          clear hsame HSKIP HFIRST HNEW HOLD HBJ HAT HC
          go_upto_region 9 with fail
          go_quiet (first | (go_at_call 35; first | exact Calls.quiet_of (CRB.out _) | exact Calls.quiet_of (CRA.out _)) | (go_at_call 25; exact Calls.quiet_of (CSI.out _ (bDn (Below.refl _ _) _))))
          go_wp2_with fail
          go_roundw
          case rel => exact ⟨bDn HBR.out _, k + 1, by omega, by go_num, _, rfl, HB.out⟩
          case measure => simp [intOf]; omega
        | false =>
          rw [hsame] at CSI HC
          by_cases hsd0 : 0 < sd
          case neg =>
            have u1 : decide (sd ≤ 0) = true := decide_eq_true (by omega)
            have HB := hid (HSKIP.out (by rw [HC.out, decide_eq_false hsd0]; rfl))
            clear hsame HSKIP HFIRST HNEW HOLD HBJ HAT HC hsd0
            generalize levS dk = ld at *
            generalize levS e = le at *
            go_upto_region 9 with fail
            go_region_held3 (fun w' => w'.cell? ⟨g, o + k * 4, none⟩ = some (.slice Ak_ (m + 1) ck_) ∧ w'.cell? ⟨g, o + k * 4 + 1, none⟩ = some (.int .i64 dk.x) ∧ w'.cell? ⟨g, o + k * 4 + 2, none⟩ = some (.int .i64 dk.top) ∧ w'.cell? ⟨g, o + k * 4 + 3, none⟩ = some (.int .i64 dk.bottom) ∧ w'.cell? ⟨gh, 0, none⟩ = some (.slice Ah nh ch) ∧ w'.cell? ⟨gh, 1, none⟩ = some (.int .i64 e.x) ∧ w'.cell? ⟨gh, 2, none⟩ = some (.int .i64 e.top) ∧ w'.cell? ⟨gh, 3, none⟩ = some (.int .i64 e.bottom)) (first | (refine K9.out _ ?_; (repeat (first | with_reducible exact Below.refl _ _ | with_reducible exact HB9.out | with_reducible exact HB8.out | with_reducible exact HB7.out | with_reducible exact HB6.out | with_reducible exact HB5.out | with_reducible refine Below.drew ?_ | with_reducible refine bDn ?_ _ | fail)); done) | fail) (first
  | (go_at_call 35; (with_reducible refine (CRB.out _).mono ?_); rintro r0 w6 ⟨rfl, nn, hw⟩; have HB6 : Hid (Below wr.heap.size wr w6) := hid (by rw [hw]; exact bDn (HB5.out) _); clear hw; obtain ⟨a0, a1, a2, a3, h0, h1, h2, h3⟩ := K9.out _ HB6.out)
  | (go_at_call 35; (with_reducible refine (CRA.out _).mono ?_); rintro r0 w5 ⟨rfl, nn, hw⟩; have HB5 : Hid (Below wr.heap.size wr w5) := hid (by rw [hw]; exact bDn (show Below wr.heap.size wr _ by (repeat (first | with_reducible exact Below.refl _ _ | with_reducible refine Below.drew ?_ | with_reducible refine bAl ?_ _ | fail))) _); clear hw; obtain ⟨a0, a1, a2, a3, h0, h1, h2, h3⟩ := K9.out _ HB5.out)
  | (go_at_call 25; (with_reducible refine (CSI.out w6 HB6.out).mono ?_); rintro r0 w7 ⟨rfl, nn, hw⟩; have HB7 : Hid (Below wr.heap.size wr w7) := hid (by rw [hw]; exact bDn (HB6.out) _); clear hw; obtain ⟨a0, a1, a2, a3, h0, h1, h2, h3⟩ := K9.out _ HB7.out)
  | (go_at_call 100; (with_reducible refine (CLE.out _).mono ?_); rintro r0 w9 ⟨rfl, hb0⟩; have HB9 : Hid (Below wr.heap.size wr w9) := hid (bCl HB8.out hb0); clear hb0; obtain ⟨a0, a1, a2, a3, h0, h1, h2, h3⟩ := K9.out _ HB9.out)
  | (go_at_call 100; (with_reducible refine (CLD.out _).mono ?_); rintro r0 w8 ⟨rfl, hb0⟩; have HB8 : Hid (Below wr.heap.size wr w8) := hid (bCl HB7.out hb0); clear hb0; obtain ⟨a0, a1, a2, a3, h0, h1, h2, h3⟩ := K9.out _ HB8.out)
  | fail)
            all_goals
              go_wp2_with fail
              go_roundw
              case rel => exact ⟨bCl HBR.out (by first | exact HB9.out | exact HB9.out.drew), k + 1, by omega, by go_num, _, rfl, HB.out⟩
              case measure => simp [intOf]; omega
          case pos =>
            have u1 : decide (sd ≤ 0) = false := decide_eq_false (by omega)
            have hct : cb = true := by rw [HC.out, decide_eq_true hsd0]; rfl
            have HCT := hid hct
            generalize levS dk = ld at *
            generalize levS e = le at *
            rcases HBJ.out with hbj | ⟨j, hj, hbj⟩
            · have HB := hid (HFIRST.out hct hbj)
              subst hbj
              clear hsame HSKIP HFIRST HNEW HOLD HBJ HAT HC hsd0 hct HBST
              go_upto_region 9 with fail
              go_region_held3 (fun w' => w'.cell? ⟨g, o + k * 4, none⟩ = some (.slice Ak_ (m + 1) ck_) ∧ w'.cell? ⟨g, o + k * 4 + 1, none⟩ = some (.int .i64 dk.x) ∧ w'.cell? ⟨g, o + k * 4 + 2, none⟩ = some (.int .i64 dk.top) ∧ w'.cell? ⟨g, o + k * 4 + 3, none⟩ = some (.int .i64 dk.bottom) ∧ w'.cell? ⟨gh, 0, none⟩ = some (.slice Ah nh ch) ∧ w'.cell? ⟨gh, 1, none⟩ = some (.int .i64 e.x) ∧ w'.cell? ⟨gh, 2, none⟩ = some (.int .i64 e.top) ∧ w'.cell? ⟨gh, 3, none⟩ = some (.int .i64 e.bottom)) (first | (refine K9.out _ ?_; (repeat (first | with_reducible exact Below.refl _ _ | with_reducible exact HB9.out | with_reducible exact HB8.out | with_reducible exact HB7.out | with_reducible exact HB6.out | with_reducible exact HB5.out | with_reducible refine Below.drew ?_ | with_reducible refine bDn ?_ _ | fail)); done) | fail) (first
  | (go_at_call 35; (with_reducible refine (CRB.out _).mono ?_); rintro r0 w6 ⟨rfl, nn, hw⟩; have HB6 : Hid (Below wr.heap.size wr w6) := hid (by rw [hw]; exact bDn (HB5.out) _); clear hw; obtain ⟨a0, a1, a2, a3, h0, h1, h2, h3⟩ := K9.out _ HB6.out)
  | (go_at_call 35; (with_reducible refine (CRA.out _).mono ?_); rintro r0 w5 ⟨rfl, nn, hw⟩; have HB5 : Hid (Below wr.heap.size wr w5) := hid (by rw [hw]; exact bDn (show Below wr.heap.size wr _ by (repeat (first | with_reducible exact Below.refl _ _ | with_reducible refine Below.drew ?_ | with_reducible refine bAl ?_ _ | fail))) _); clear hw; obtain ⟨a0, a1, a2, a3, h0, h1, h2, h3⟩ := K9.out _ HB5.out)
  | (go_at_call 25; (with_reducible refine (CSI.out w6 HB6.out).mono ?_); rintro r0 w7 ⟨rfl, nn, hw⟩; have HB7 : Hid (Below wr.heap.size wr w7) := hid (by rw [hw]; exact bDn (HB6.out) _); clear hw; obtain ⟨a0, a1, a2, a3, h0, h1, h2, h3⟩ := K9.out _ HB7.out)
  | (go_at_call 100; (with_reducible refine (CLE.out _).mono ?_); rintro r0 w9 ⟨rfl, hb0⟩; have HB9 : Hid (Below wr.heap.size wr w9) := hid (bCl HB8.out hb0); clear hb0; obtain ⟨a0, a1, a2, a3, h0, h1, h2, h3⟩ := K9.out _ HB9.out)
  | (go_at_call 100; (with_reducible refine (CLD.out _).mono ?_); rintro r0 w8 ⟨rfl, hb0⟩; have HB8 : Hid (Below wr.heap.size wr w8) := hid (bCl HB7.out hb0); clear hb0; obtain ⟨a0, a1, a2, a3, h0, h1, h2, h3⟩ := K9.out _ HB8.out)
  | fail)
              all_goals
                go_upto_region 10 with fail
                go_quiet (fail)
                go_wp2_with fail
                go_roundw
                case rel => exact ⟨bCl HBR.out (by first | exact HB9.out | exact bDn HB9.out _), k + 1, by omega, by go_num, _, rfl, HB.out⟩
                case measure => simp [intOf]; omega
            · obtain ⟨g2, o2, Aj, cj, hA2, _, b0, b1, b2, b3, _, _⟩ := HAT.out j hj
              cases hA2
              have hsj := HSM.out _ (List.getElem_mem hj)
              have HNW := hid (HNEW.out j hj hbj hct)
              have HOL := hid (HOLD.out j hj hbj hct)
              have l1 : decide (bj < 0) = false := decide_eq_false (by omega)
              have l2 : (0 : Int) ≤ (j : Int) := by omega
              have l3 : (j : Int) < (L.length : Int) := by omega
              generalize L[j] = dj at *
              generalize dj.pos.length = nj at *
              have CFJ : Hid (∀ W, Calls Tryz.prog 101 #[.agg #[.slice Aj nj cj, .int .i64 dj.x, .int .i64 dj.top, .int .i64 dj.bottom], .agg #[.slice Ah nh ch, .int .i64 e.x, .int .i64 e.top, .int .i64 e.bottom]] W fun r w' => r = .returned (.int .i64 (farS dj e)) ∧ Below W.heap.size W w') := fun W => rfar_any dj e Aj Ah nj cj nh ch W hsj HSE.out
              have K10 : Hid (∀ w', Below wr.heap.size wr w' → w'.cell? ⟨g, o + k * 4, none⟩ = some (.slice Ak_ (m + 1) ck_) ∧ w'.cell? ⟨g, o + k * 4 + 1, none⟩ = some (.int .i64 dk.x) ∧ w'.cell? ⟨g, o + k * 4 + 2, none⟩ = some (.int .i64 dk.top) ∧ w'.cell? ⟨g, o + k * 4 + 3, none⟩ = some (.int .i64 dk.bottom) ∧ w'.cell? ⟨g, o + j * 4, none⟩ = some (.slice Aj nj cj) ∧ w'.cell? ⟨g, o + j * 4 + 1, none⟩ = some (.int .i64 dj.x) ∧ w'.cell? ⟨g, o + j * 4 + 2, none⟩ = some (.int .i64 dj.top) ∧ w'.cell? ⟨g, o + j * 4 + 3, none⟩ = some (.int .i64 dj.bottom) ∧ w'.cell? ⟨gh, 0, none⟩ = some (.slice Ah nh ch) ∧ w'.cell? ⟨gh, 1, none⟩ = some (.int .i64 e.x) ∧ w'.cell? ⟨gh, 2, none⟩ = some (.int .i64 e.top) ∧ w'.cell? ⟨gh, 3, none⟩ = some (.int .i64 e.bottom)) := fun W' hW' => by
                have h1 := bCl HB1R.out hW'
                obtain ⟨a0, a1, a2, a3, h0, h2, h3, h4⟩ := K9.out W' hW'
                exact ⟨a0, a1, a2, a3, (h1.cell (p := ⟨g, _, none⟩) hg).trans b0, (h1.cell (p := ⟨g, _, none⟩) hg).trans b1, (h1.cell (p := ⟨g, _, none⟩) hg).trans b2, (h1.cell (p := ⟨g, _, none⟩) hg).trans b3, h0, h2, h3, h4⟩
              subst hbj
              generalize farS dk e = fk at *
              generalize farS dj e = fj at *
              by_cases hff : fk < fj
              · have u2 : decide (fk < fj) = true := decide_eq_true hff
                have HB := hid (HNW.out hff)
                clear hsame HSKIP HFIRST HNEW HOLD HBJ HAT HC hsd0 hct HBST HNW HOL hff b0 b1 b2 b3 hsj
                go_upto_region 9 with fail
                go_region_held3 (fun w' => w'.cell? ⟨g, o + k * 4, none⟩ = some (.slice Ak_ (m + 1) ck_) ∧ w'.cell? ⟨g, o + k * 4 + 1, none⟩ = some (.int .i64 dk.x) ∧ w'.cell? ⟨g, o + k * 4 + 2, none⟩ = some (.int .i64 dk.top) ∧ w'.cell? ⟨g, o + k * 4 + 3, none⟩ = some (.int .i64 dk.bottom) ∧ w'.cell? ⟨gh, 0, none⟩ = some (.slice Ah nh ch) ∧ w'.cell? ⟨gh, 1, none⟩ = some (.int .i64 e.x) ∧ w'.cell? ⟨gh, 2, none⟩ = some (.int .i64 e.top) ∧ w'.cell? ⟨gh, 3, none⟩ = some (.int .i64 e.bottom)) (first | (refine K9.out _ ?_; (repeat (first | with_reducible exact Below.refl _ _ | with_reducible exact HB9.out | with_reducible exact HB8.out | with_reducible exact HB7.out | with_reducible exact HB6.out | with_reducible exact HB5.out | with_reducible refine Below.drew ?_ | with_reducible refine bDn ?_ _ | fail)); done) | fail) (first
                  | (go_at_call 35; (with_reducible refine (CRB.out _).mono ?_); rintro r0 w6 ⟨rfl, nn, hw⟩; have HB6 : Hid (Below wr.heap.size wr w6) := hid (by rw [hw]; exact bDn (HB5.out) _); clear hw; obtain ⟨a0, a1, a2, a3, h0, h1, h2, h3⟩ := K9.out _ HB6.out)
                  | (go_at_call 35; (with_reducible refine (CRA.out _).mono ?_); rintro r0 w5 ⟨rfl, nn, hw⟩; have HB5 : Hid (Below wr.heap.size wr w5) := hid (by rw [hw]; exact bDn (show Below wr.heap.size wr _ by (repeat (first | with_reducible exact Below.refl _ _ | with_reducible refine Below.drew ?_ | with_reducible refine bAl ?_ _ | fail))) _); clear hw; obtain ⟨a0, a1, a2, a3, h0, h1, h2, h3⟩ := K9.out _ HB5.out)
                  | (go_at_call 25; (with_reducible refine (CSI.out w6 HB6.out).mono ?_); rintro r0 w7 ⟨rfl, nn, hw⟩; have HB7 : Hid (Below wr.heap.size wr w7) := hid (by rw [hw]; exact bDn (HB6.out) _); clear hw; obtain ⟨a0, a1, a2, a3, h0, h1, h2, h3⟩ := K9.out _ HB7.out)
                  | (go_at_call 100; (with_reducible refine (CLE.out _).mono ?_); rintro r0 w9 ⟨rfl, hb0⟩; have HB9 : Hid (Below wr.heap.size wr w9) := hid (bCl HB8.out hb0); clear hb0; obtain ⟨a0, a1, a2, a3, h0, h1, h2, h3⟩ := K9.out _ HB9.out)
                  | (go_at_call 100; (with_reducible refine (CLD.out _).mono ?_); rintro r0 w8 ⟨rfl, hb0⟩; have HB8 : Hid (Below wr.heap.size wr w8) := hid (bCl HB7.out hb0); clear hb0; obtain ⟨a0, a1, a2, a3, h0, h1, h2, h3⟩ := K9.out _ HB8.out)
                  | fail)
                all_goals
                  go_upto_region 10 with fail
                  obtain ⟨a0, a1, a2, a3, j0, j1, j2, j3, h0, h1, h2, h3⟩ := K10.out _ HB9.out
                  go_region_held3 (fun w' => w'.cell? ⟨g, o + k * 4, none⟩ = some (.slice Ak_ (m + 1) ck_) ∧ w'.cell? ⟨g, o + k * 4 + 1, none⟩ = some (.int .i64 dk.x) ∧ w'.cell? ⟨g, o + k * 4 + 2, none⟩ = some (.int .i64 dk.top) ∧ w'.cell? ⟨g, o + k * 4 + 3, none⟩ = some (.int .i64 dk.bottom) ∧ w'.cell? ⟨g, o + j * 4, none⟩ = some (.slice Aj nj cj) ∧ w'.cell? ⟨g, o + j * 4 + 1, none⟩ = some (.int .i64 dj.x) ∧ w'.cell? ⟨g, o + j * 4 + 2, none⟩ = some (.int .i64 dj.top) ∧ w'.cell? ⟨g, o + j * 4 + 3, none⟩ = some (.int .i64 dj.bottom) ∧ w'.cell? ⟨gh, 0, none⟩ = some (.slice Ah nh ch) ∧ w'.cell? ⟨gh, 1, none⟩ = some (.int .i64 e.x) ∧ w'.cell? ⟨gh, 2, none⟩ = some (.int .i64 e.top) ∧ w'.cell? ⟨gh, 3, none⟩ = some (.int .i64 e.bottom)) (first | (refine K10.out _ ?_; (repeat (first | with_reducible exact Below.refl _ _ | with_reducible exact HBB.out | with_reducible exact HBA.out | with_reducible exact HB9.out | with_reducible refine Below.drew ?_ | with_reducible refine bDn ?_ _ | fail)); done) | fail) (first
                  | (go_at_call 101; (with_reducible refine (CFJ.out _).mono ?_); rintro r0 wb ⟨rfl, hb0⟩; have HBB : Hid (Below wr.heap.size wr wb) := hid (bCl HBA.out hb0); clear hb0; obtain ⟨a0, a1, a2, a3, j0, j1, j2, j3, h0, h1, h2, h3⟩ := K10.out _ HBB.out)
                  | (go_at_call 101; (with_reducible refine (CFK.out _).mono ?_); rintro r0 wa ⟨rfl, hb0⟩; have HBA : Hid (Below wr.heap.size wr wa) := hid (bCl HB9.out (by first | exact hb0 | exact bDr hb0)); clear hb0; obtain ⟨a0, a1, a2, a3, j0, j1, j2, j3, h0, h1, h2, h3⟩ := K10.out _ HBA.out)
                  | fail)
                  all_goals
                    go_wp2_with fail
                    go_roundw
                    case rel => exact ⟨bCl HBR.out (by first | exact HBB.out | exact HBB.out.drew), k + 1, by omega, by go_num, _, rfl, HB.out⟩
                    case measure => simp [intOf]; omega
              · have u2 : decide (fk < fj) = false := decide_eq_false hff
                have HB := hid (HOL.out hff)
                clear hsame HSKIP HFIRST HNEW HOLD HBJ HAT HC hsd0 hct HBST HNW HOL hff b0 b1 b2 b3 hsj
                go_upto_region 9 with fail
                go_region_held3 (fun w' => w'.cell? ⟨g, o + k * 4, none⟩ = some (.slice Ak_ (m + 1) ck_) ∧ w'.cell? ⟨g, o + k * 4 + 1, none⟩ = some (.int .i64 dk.x) ∧ w'.cell? ⟨g, o + k * 4 + 2, none⟩ = some (.int .i64 dk.top) ∧ w'.cell? ⟨g, o + k * 4 + 3, none⟩ = some (.int .i64 dk.bottom) ∧ w'.cell? ⟨gh, 0, none⟩ = some (.slice Ah nh ch) ∧ w'.cell? ⟨gh, 1, none⟩ = some (.int .i64 e.x) ∧ w'.cell? ⟨gh, 2, none⟩ = some (.int .i64 e.top) ∧ w'.cell? ⟨gh, 3, none⟩ = some (.int .i64 e.bottom)) (first | (refine K9.out _ ?_; (repeat (first | with_reducible exact Below.refl _ _ | with_reducible exact HB9.out | with_reducible exact HB8.out | with_reducible exact HB7.out | with_reducible exact HB6.out | with_reducible exact HB5.out | with_reducible refine Below.drew ?_ | with_reducible refine bDn ?_ _ | fail)); done) | fail) (first
                  | (go_at_call 35; (with_reducible refine (CRB.out _).mono ?_); rintro r0 w6 ⟨rfl, nn, hw⟩; have HB6 : Hid (Below wr.heap.size wr w6) := hid (by rw [hw]; exact bDn (HB5.out) _); clear hw; obtain ⟨a0, a1, a2, a3, h0, h1, h2, h3⟩ := K9.out _ HB6.out)
                  | (go_at_call 35; (with_reducible refine (CRA.out _).mono ?_); rintro r0 w5 ⟨rfl, nn, hw⟩; have HB5 : Hid (Below wr.heap.size wr w5) := hid (by rw [hw]; exact bDn (show Below wr.heap.size wr _ by (repeat (first | with_reducible exact Below.refl _ _ | with_reducible refine Below.drew ?_ | with_reducible refine bAl ?_ _ | fail))) _); clear hw; obtain ⟨a0, a1, a2, a3, h0, h1, h2, h3⟩ := K9.out _ HB5.out)
                  | (go_at_call 25; (with_reducible refine (CSI.out w6 HB6.out).mono ?_); rintro r0 w7 ⟨rfl, nn, hw⟩; have HB7 : Hid (Below wr.heap.size wr w7) := hid (by rw [hw]; exact bDn (HB6.out) _); clear hw; obtain ⟨a0, a1, a2, a3, h0, h1, h2, h3⟩ := K9.out _ HB7.out)
                  | (go_at_call 100; (with_reducible refine (CLE.out _).mono ?_); rintro r0 w9 ⟨rfl, hb0⟩; have HB9 : Hid (Below wr.heap.size wr w9) := hid (bCl HB8.out hb0); clear hb0; obtain ⟨a0, a1, a2, a3, h0, h1, h2, h3⟩ := K9.out _ HB9.out)
                  | (go_at_call 100; (with_reducible refine (CLD.out _).mono ?_); rintro r0 w8 ⟨rfl, hb0⟩; have HB8 : Hid (Below wr.heap.size wr w8) := hid (bCl HB7.out hb0); clear hb0; obtain ⟨a0, a1, a2, a3, h0, h1, h2, h3⟩ := K9.out _ HB8.out)
                  | fail)
                all_goals
                  go_upto_region 10 with fail
                  obtain ⟨a0, a1, a2, a3, j0, j1, j2, j3, h0, h1, h2, h3⟩ := K10.out _ HB9.out
                  go_region_held3 (fun w' => w'.cell? ⟨g, o + k * 4, none⟩ = some (.slice Ak_ (m + 1) ck_) ∧ w'.cell? ⟨g, o + k * 4 + 1, none⟩ = some (.int .i64 dk.x) ∧ w'.cell? ⟨g, o + k * 4 + 2, none⟩ = some (.int .i64 dk.top) ∧ w'.cell? ⟨g, o + k * 4 + 3, none⟩ = some (.int .i64 dk.bottom) ∧ w'.cell? ⟨g, o + j * 4, none⟩ = some (.slice Aj nj cj) ∧ w'.cell? ⟨g, o + j * 4 + 1, none⟩ = some (.int .i64 dj.x) ∧ w'.cell? ⟨g, o + j * 4 + 2, none⟩ = some (.int .i64 dj.top) ∧ w'.cell? ⟨g, o + j * 4 + 3, none⟩ = some (.int .i64 dj.bottom) ∧ w'.cell? ⟨gh, 0, none⟩ = some (.slice Ah nh ch) ∧ w'.cell? ⟨gh, 1, none⟩ = some (.int .i64 e.x) ∧ w'.cell? ⟨gh, 2, none⟩ = some (.int .i64 e.top) ∧ w'.cell? ⟨gh, 3, none⟩ = some (.int .i64 e.bottom)) (first | (refine K10.out _ ?_; (repeat (first | with_reducible exact Below.refl _ _ | with_reducible exact HBB.out | with_reducible exact HBA.out | with_reducible exact HB9.out | with_reducible refine Below.drew ?_ | with_reducible refine bDn ?_ _ | fail)); done) | fail) (first
                  | (go_at_call 101; (with_reducible refine (CFJ.out _).mono ?_); rintro r0 wb ⟨rfl, hb0⟩; have HBB : Hid (Below wr.heap.size wr wb) := hid (bCl HBA.out hb0); clear hb0; obtain ⟨a0, a1, a2, a3, j0, j1, j2, j3, h0, h1, h2, h3⟩ := K10.out _ HBB.out)
                  | (go_at_call 101; (with_reducible refine (CFK.out _).mono ?_); rintro r0 wa ⟨rfl, hb0⟩; have HBA : Hid (Below wr.heap.size wr wa) := hid (bCl HB9.out (by first | exact hb0 | exact bDr hb0)); clear hb0; obtain ⟨a0, a1, a2, a3, j0, j1, j2, j3, h0, h1, h2, h3⟩ := K10.out _ HBA.out)
                  | fail)
                  all_goals
                    go_wp2_with fail
                    go_roundw
                    case rel => exact ⟨bCl HBR.out (by first | exact HBB.out | exact HBB.out.drew), k + 1, by omega, by go_num, _, rfl, HB.out⟩
                    case measure => simp [intOf]; omega
      · have i5 : decide ((k : Int) < (L.length : Int)) = false := by rw [decide_eq_false_iff_not]; omega
        have hw0 : w.heap.size ≤ W0.heap.size := (KB.out W0 (Below.refl _ _)).2.1.size
        have HWR : Hid (Below w.heap.size w wr) := (KB.out wr (bCl HTX.out hbr)).2.1
        have HB1R : Hid (Below w1.heap.size w1 wr) := bCl HB1X.out hbr
        have htk : L.take k = L := List.take_of_length_le hge
        rcases HBST.out with ⟨h1, h2⟩ | ⟨j, hj, h1, h2⟩
        · subst h2
          rw [htk] at h1
          have HRR : Hid (r = ([], 8)) := by show _ = _; rw [HR.out, h1]
          clear h1 htk HBST
          go_wp2_with fail
          go_ret2
          exact ⟨HWR.out, .slice none 0 0, by rw [HRR.out]; rfl, by rw [HRR.out]; exact SliceR.nil_ 0 (Nat.zero_le _) none⟩
        · rw [htk] at h1
          have HRR : Hid (r = (L[j].pos, 0)) := by show _ = _; rw [HR.out, h1]
          obtain ⟨_, _, rs, hq, _, _, hrd, hls⟩ := HR1.out
          cases hq
          obtain ⟨g, o, Aj, cj, hA, hg', b0, _, _, _, _, hi⟩ := carsAt hrd hls hj
          subst hA
          have hg : g < w1.heap.size := hg'.2
          have x0 := (HB1R.out.cell (p := ⟨g, _, none⟩) hg).trans b0
          have HI := hid hi
          have l1 : decide (bj < 0) = false := decide_eq_false (by omega)
          have l2 : (0 : Int) ≤ (j : Int) := by omega
          have l3 : (j : Int) < (L.length : Int) := by omega
          subst h2
          generalize L[j] = dj at *
          clear h1 htk HBST hrd hls b0 hi hg' hbr
          go_wp2_with fail
          go_ret2
          have hb := HB1R.out
          refine ⟨HWR.out, .slice Aj dj.pos.length cj, by rw [HRR.out]; rfl, ?_⟩
          rw [HRR.out]
          exact HI.out.keep (fun p hp => hb.cell hp.2) (fun k hk => ⟨Nat.le_trans hw0 hk.1, Nat.lt_of_lt_of_le hk.2 hb.size⟩)
end Go.Proofs.YtmahiejfniaahaaGreatDoor
