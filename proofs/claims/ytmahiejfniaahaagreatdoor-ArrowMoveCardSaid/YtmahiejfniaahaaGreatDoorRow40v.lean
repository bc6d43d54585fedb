/- ref40.row: the caret of an offset of a row. Written by wip/genrow.py. -/
import Derived.Test.YtmahiejfniaahaaGreatDoorFndv
import Derived.Test.YtmahiejfniaahaaGreatDoorHD
import Derived.Test.YtmahiejfniaahaaGreatDoorOrdAv
import Derived.Test.YtmahiejfniaahaaGreatDoorGM
import Derived.Test.YtmahiejfniaahaaGreatDoorHA
import Derived.Deep.RegionHeld3
import Derived.Deep.DeepCutAuto
import Derived.Laws.EntriesVeiled
set_option linter.unusedVariables false
set_option linter.unusedSimpArgs false
set_option maxRecDepth 100000
namespace Go.Proofs.YtmahiejfniaahaaGreatDoor
open Go.RowKit
structure RowC (X W : World) (g : Nat) (A : Option Addr) (c n : Nat) (z top bottom : Int) (ps : List Int) : Prop where
  box : BoxL W g 0 [.slice A n c, .int .i64 z, .int .i64 top, .int .i64 bottom]
  free : FreeB W g
  ints : IntsR W (fun k => X.heap.size ≤ k ∧ k < W.heap.size ∧ k ≠ g) ps (.slice A n c)
  below : Below X.heap.size X W
  le : X.heap.size ≤ g
  lt : g < W.heap.size
theorem RowC.dr {X W : World} {g : Nat} {A : Option Addr} {c n : Nat} {z top bottom : Int} {ps : List Int} (h : RowC X W g A c n z top bottom ps) (m : Nat) : RowC X (W.drewN m) g A c n z top bottom ps :=
  ⟨h.box, h.free, h.ints.keep (fun _ _ => rfl) (fun _ h => h), bDn h.below m, h.le, h.lt⟩
theorem RowC.set {X W : World} {g : Nat} {A : Option Addr} {c n : Nat} {z top bottom : Int} {ps : List Int} (h : RowC X W g A c n z top bottom ps) (z' : Int) {W' : World} (hW : W' = W.setCell ⟨g, 1, none⟩ (.int .i64 z')) : RowC X W' g A c n z' top bottom ps := by
  have hs := setL [.int .i64 z'] W g 1 (fun j hj => by
    match j, hj with
    | 0, _ => exact ⟨_, h.box 1 _ rfl⟩)
  rw [show setCells W g 1 [.int .i64 z'] = W' from hW.symm] at hs
  refine ⟨fun j u hu => ?_, fun j => (hs.frozen _).trans (h.free j), h.ints.keep (fun p hp => hs.other p hp.2.2) (fun k hk => ⟨hk.1, by rw [hs.size]; exact hk.2.1, hk.2.2⟩), hs.below _ _ h.le h.below, h.le, by rw [hs.size]; exact h.lt⟩
  match j, hu with
  | 0, hu => exact (hs.rest 0 (.inl (by omega))).trans (h.box 0 _ hu)
  | 1, hu =>
    simp at hu
    subst hu
    simpa using hs.at_ 0 _ rfl
  | 2, hu => exact (hs.rest 2 (.inr (by simp))).trans (h.box 2 _ hu)
  | 3, hu => exact (hs.rest 3 (.inr (by simp))).trans (h.box 3 _ hu)
theorem zfacts {W : World} {g : Nat} {T : TypeId} (h : HasObj W g (.cells #[.slice none 0 0, .int .i64 0, .int .i64 0, .int .i64 0] T)) : W.cell? ⟨g, 0, none⟩ = some (.slice none 0 0) ∧ W.cell? ⟨g, 1, none⟩ = some (.int .i64 0) ∧ W.cell? ⟨g, 2, none⟩ = some (.int .i64 0) ∧ W.cell? ⟨g, 3, none⟩ = some (.int .i64 0) ∧ W.frozen? ⟨g, 0, none⟩ = false ∧ W.frozen? ⟨g, 1, none⟩ = false ∧ W.frozen? ⟨g, 2, none⟩ = false ∧ W.frozen? ⟨g, 3, none⟩ = false := by
  obtain ⟨h1, h2⟩ := h.cells
  refine ⟨h1 0 _ rfl, ?_, ?_, ?_, h2 _, h2 _, h2 _, h2 _⟩
  · simpa using h1 1 _ rfl
  · simpa using h1 2 _ rfl
  · simpa using h1 3 _ rfl
theorem RowC.last {X W : World} {A : Option Addr} {c n : Nat} {top bottom : Int} {ps : List Int} (T : TypeId) (hi : IntsR W (fun k => X.heap.size ≤ k ∧ k < W.heap.size) ps (.slice A n c)) (hb : Below X.heap.size X W) (g : Nat) (hg : g = W.heap.size) :
    RowC X (W.alloc (.cells #[.slice A n c, .int .i64 0, .int .i64 top, .int .i64 bottom] T)) g A c n 0 top bottom ps := by
  subst hg
  exact ⟨BoxL.new _ _ _ _ rfl _ rfl, FreeB.new _ _ _ _ rfl, hi.keep (fun p hp => (bNew _ _).cell hp.2) (fun k hk => ⟨hk.1, by simp; omega, by omega⟩), bAl hb _, hb.size, by simp⟩
theorem RowC.stored {X W : World} {g : Nat} {A : Option Addr} {c n : Nat} {top bottom : Int} {ps : List Int} {T : TypeId} (ho : HasObj W g (.cells #[.slice none 0 0, .int .i64 0, .int .i64 0, .int .i64 0] T)) (hi : IntsR W (fun k => X.heap.size ≤ k ∧ k < W.heap.size ∧ k ≠ g) ps (.slice A n c)) (hb : Below X.heap.size X W) (hg : X.heap.size ≤ g) {W' : World}
    (hW : W' = (((W.setCell ⟨g, 0, none⟩ (.slice A n c)).setCell ⟨g, 1, none⟩ (.int .i64 0)).setCell ⟨g, 2, none⟩ (.int .i64 top)).setCell ⟨g, 3, none⟩ (.int .i64 bottom)) : RowC X W' g A c n 0 top bottom ps := by
  have hs := setL [.slice A n c, .int .i64 0, .int .i64 top, .int .i64 bottom] W g 0 (fun j hj => ho.cells.1.has j (by simpa using hj))
  rw [show setCells W g 0 [.slice A n c, .int .i64 0, .int .i64 top, .int .i64 bottom] = W' from hW.symm] at hs
  exact ⟨hs.at_, fun j => (hs.frozen _).trans (ho.cells.2 j), hi.keep (fun p hp => hs.other p hp.2.2) (fun k hk => ⟨hk.1, by rw [hs.size]; exact hk.2.1, hk.2.2⟩), hs.below _ _ hg hb, hg, by rw [hs.size]; exact ho.lt⟩
set_option maxHeartbeats 16000000 in
theorem rrow_any (t t0 : Tree) (b : Bx) (q : List Int) (k : Int) (A Ak As Ap : Option Addr) (cap ck cs cp : Nat) (w : World) (hv : SliceR treeE w (Lt w.heap.size) t.kids (.slice A t.kids.length cap)) (htx : t.text.size ≤ maxLen) (hb : BoxIn w b Ak As ck cs) (hvt : validS t = true) (hvb : validB b = true)
    (hp : IntsR w (Lt w.heap.size) q (.slice Ap q.length cp)) (hr : rowS t q = some t0) (hk : 0 ≤ k ∧ k ≤ t0.kids.length) (hql : q.length ≤ 100000) :
    Calls Tryz.prog 43 #[nodeV t A cap, boxV b Ak As ck cs, .slice Ap q.length cp, .int .i64 k] w (PlcRes w (placeS t b q k)) := by
  obtain ⟨hpb, hcb, _⟩ := valid_parts hvb
  have hct := (valid_count hvt).1
  have hrr : rowRes t q = (t0, 0) := by
    have h := hr
    rw [find_row] at h
    unfold rowRes
    split at h
    · rename_i hf
      injection h with h
      rw [if_neg (by simp [hvt]), if_neg (by simp [hf]), h]
    · cases h
  have hkc : t0.kids.length ≤ 1000000 := by have := row_cnt t q t0 hr; have := kids_le_count t0; omega
  have CR : Hid (∀ W, Below w.heap.size w W → Calls Tryz.prog 34 #[nodeV t A cap, .slice Ap q.length cp] W (RowP (Lt W.heap.size) W t0.kind t0.text t0.cols t0.kids 0)) := fun W hW => by
    have h := rRow_any t q A Ap cap cp W (hv.below hW hW.size) htx (by omega) (hp.below hW hW.size)
    rw [hrr] at h
    exact h
  have CF : Hid (∀ W, Below w.heap.size w W → Calls Tryz.prog 85 #[boxV b Ak As ck cs, .int .i64 1, .slice Ap q.length cp] W (FndRes (Lt w.heap.size) W (findB 1 q b))) := fun W hW =>
    find28_any 1 q Ap cp b Ak As ck cs W (Lt w.heap.size) (fun k hk => Nat.lt_of_lt_of_le hk hW.size) hb.ok (hb.src.keep (fun p hp => hW.cell hp) (fun _ h => h)) (hb.kids.keep (fun p hp => hW.cell hp) (fun _ h => h)) (hp.below hW hW.size) hpb (by omega)
  generalize hW0 : ((w.alloc (Obj.cells #[.int .i64 t.kind, .string t.text, .int .i64 t.cols, .slice A t.kids.length cap] 24)).alloc (Obj.cells (boxC b.f (.slice Ak b.kids.length ck) (.slice As b.f.src.length cs)) 28)).alloc (.cells #[.slice none 0 0, .int .i64 0, .int .i64 0, .int .i64 0] 36) = W0
  have KB : Hid (∀ W, Below W0.heap.size W0 W → Laid2 W w.heap.size w.heap.size t b A Ak As cap ck cs ∧ BoxL W (w.heap.size + 2) 0 [.slice none 0 0, .int .i64 0, .int .i64 0, .int .i64 0] ∧ FreeB W (w.heap.size + 2) ∧ Below w.heap.size w W ∧ w.heap.size + 2 < W.heap.size) := fun W hW => by
    have hz0 : W0.heap.size = w.heap.size + 3 := by rw [← hW0]; simp
    have h1 := Laid2.new w t b A Ak As cap ck cs 24 28 hv hb
    have h2 := h1.below (bNew _ (.cells #[.slice none 0 0, .int .i64 0, .int .i64 0, .int .i64 0] 36)) (by simp) (by simp; omega)
    have h3 : Below w.heap.size w W0 := by rw [← hW0]; exact bAl (bAl (bNew _ _) _) _
    have h4 : BoxL W0 (w.heap.size + 2) 0 [.slice none 0 0, .int .i64 0, .int .i64 0, .int .i64 0] ∧ FreeB W0 (w.heap.size + 2) := by rw [← hW0]; exact ⟨BoxL.new _ _ _ _ (by simp) _ rfl, FreeB.new _ _ _ _ (by simp)⟩
    rw [hW0] at h2
    exact ⟨h2.below hW (by omega) (by omega), h4.1.below hW (by omega), h4.2.below hW (by omega), h3.trans (hW.mono h3.size), by have := hW.size; omega⟩
  have HP : Hid (∀ W, Below w.heap.size w W → IntsR W (Lt w.heap.size) q (.slice Ap q.length cp)) := fun W hW => hp.keep (fun p hp => hW.cell hp) (fun _ h => h)
  have HPL : Hid (placeS t b q k = match findB 1 q b with | none => none | some f => if f.1.kids.length = t0.kids.length then some ⟨q ++ [k], atS f.1 f.2.1 k.toNat, f.2.2 + f.1.f.h, f.2.2 - f.1.f.d⟩ else none) := by
    show _ = _
    rw [placeS, hr]
    cases findB 1 q b <;> rfl
  have HFB : Hid (∀ f, findB 1 q b = some f → properB f.1 = true ∧ (-1152921504606846976 ≤ f.2.1 ∧ f.2.1 ≤ 1152921504606846976) ∧ (-1152921504606846976 ≤ f.2.2 ∧ f.2.2 ≤ 1152921504606846976)) := fun f hf => by
    obtain ⟨a1, _, _, a4, a5⟩ := find_bd 1 q b hpb f hf
    exact ⟨a1, by omega, by omega⟩
  generalize hres : placeS t b q k = res at *
  have HK := hid hk
  clear hv htx hb hvt hvb hp hr hpb hcb hct hrr hres
  cases hfd : findB 1 q b with
  | none =>
    rw [hfd] at CF HPL
    clear hfd HFB HK
    obtain ⟨hl2, hrz, hfz, hbw, hgz⟩ := KB.out W0 (Below.refl _ _)
    have m0 := hl2.node 0 _ rfl
    have m1 := hl2.node 1 _ rfl
    have m2 := hl2.node 2 _ rfl
    have m3 := hl2.node 3 _ rfl
    have n0 := hl2.box 0 _ rfl
    have n1 := hl2.box 1 _ rfl
    have n2 := hl2.box 2 _ rfl
    have n3 := hl2.box 3 _ rfl
    have n4 := hl2.box 4 _ rfl
    have n5 := hl2.box 5 _ rfl
    have n6 := hl2.box 6 _ rfl
    have n7 := hl2.box 7 _ rfl
    have n8 := hl2.box 8 _ rfl
    have n9 := hl2.box 9 _ rfl
    have n10 := hl2.box 10 _ rfl
    have r0 := hrz 0 _ rfl
    have r1 := hrz 1 _ rfl
    have r2 := hrz 2 _ rfl
    have r3 := hrz 3 _ rfl
    have f0 := hfz 0
    have f1 := hfz 1
    have f2 := hfz 2
    have f3 := hfz 3
    simp only [Nat.zero_add] at m0 m1 m2 m3 n0 n1 n2 n3 n4 n5 n6 n7 n8 n9 n10 r0 r1 r2 r3
    have HBW_W0 := hid hbw
    clear hl2 hrz hfz hbw hgz
    go_enter Tryz.func43, Tryz.ntmps43
    go_wp2_with fail
    clear hW0
    refine (CR.out _ HBW_W0.out).mono ?_
    rintro e w1 ⟨vr, rfl, hr1, hb1⟩
    obtain ⟨Av, cv, rfl⟩ := hr1.form
    have HT1 := hid hb1
    clear hb1 hr1
    clear m0 m1 m2 m3 n0 n1 n2 n3 n4 n5 n6 n7 n8 n9 n10 r0 r1 r2 r3 f0 f1 f2 f3
    go_upto_region 2 with fail
    obtain ⟨X1, hX1⟩ : ∃ X, w1.alloc (.cells #[.int .i64 t0.kind, .string t0.text, .int .i64 t0.cols, .slice Av t0.kids.length cv] 24) = X := ⟨_, rfl⟩
    have hx1 : Below w1.heap.size w1 X1 := by rw [← hX1]; exact bNew _ _
    have hxk : X1.cell? ⟨w1.heap.size, 3, none⟩ = some (.slice Av t0.kids.length cv) ∧ w1.heap.size < X1.heap.size := by rw [← hX1]; exact ⟨cNew _ _ _ _ _ rfl, by simp⟩
    have HXT := hid (bCl HT1.out hx1)
    have HXK := hid hxk
    rw [hX1]
    clear hX1 hx1 hxk
    obtain ⟨hl2, hrz, hfz, hbw, hgz⟩ := KB.out X1 HXT.out
    have n0 := hl2.box 0 _ rfl
    have n1 := hl2.box 1 _ rfl
    have n2 := hl2.box 2 _ rfl
    have n3 := hl2.box 3 _ rfl
    have n4 := hl2.box 4 _ rfl
    have n5 := hl2.box 5 _ rfl
    have n6 := hl2.box 6 _ rfl
    have n7 := hl2.box 7 _ rfl
    have n8 := hl2.box 8 _ rfl
    have n9 := hl2.box 9 _ rfl
    have n10 := hl2.box 10 _ rfl
    simp only [Nat.zero_add] at n0 n1 n2 n3 n4 n5 n6 n7 n8 n9 n10
    have HBW_X1 := hid hbw
    clear hl2 hrz hfz hbw hgz
    go_wp2_with fail
    refine (CF.out _ HBW_X1.out).mono ?_
    clear n0 n1 n2 n3 n4 n5 n6 n7 n8 n9 n10
    rintro e w2 ⟨hb2, ⟨_, rfl⟩ | ⟨_, _, _, _, _, _, _, h, _⟩⟩
    case inr => cases h
    have HT2 := hid (bCl HXT.out hb2)
    clear hb2
    go_upto_region 3 with fail
    obtain ⟨X2, hX2⟩ : ∃ X, w2.alloc (.cells #[.int .i64 0, .string ⟨#[]⟩, .int .i64 0, .int .i64 0, .int .i64 0, .int .i64 0, .int .i64 0, .int .i64 0, .slice none 0 0, .int .i64 0, .slice none 0 0] 28) = X := ⟨_, rfl⟩
    have HT3 : Hid (Below W0.heap.size W0 X2) := by rw [← hX2]; exact bAl HT2.out _
    rw [hX2]
    clear hX2
    obtain ⟨hl2, hrz, hfz, hbw, hgz⟩ := KB.out X2 HT3.out
    have r0 := hrz 0 _ rfl
    have r1 := hrz 1 _ rfl
    have r2 := hrz 2 _ rfl
    have r3 := hrz 3 _ rfl
    have f0 := hfz 0
    have f1 := hfz 1
    have f2 := hfz 2
    have f3 := hfz 3
    simp only [Nat.zero_add] at r0 r1 r2 r3
    have HBW_X2 := hid hbw
    clear hl2 hrz hfz hbw hgz
    go_wp2_with fail
    generalize hW : (((X2.setCell _ (.slice none 0 0)).setCell _ (.int .i64 0)).setCell _ (.int .i64 0)).setCell _ (.int .i64 0) = WE
    obtain ⟨⟨z0, z1, z2, z3⟩, rz, rb, ro, _⟩ := four r0 r1 r2 r3 _ _ _ _ hW.symm
    have HB' := hid (rb w.heap.size w (by omega) HBW_X2.out)
    have HRO := hid ro
    have HRZ := hid rz
    clear hW ro rb rz
    refine bodyPost_ret (v := .tuple #[.agg #[.slice none 0 0, .int .i64 0, .int .i64 0, .int .i64 0], .bool false]) (by simp [results, Tryz.results43, go_sem, z0, z1, z2, z3]) rfl ?_
    exact ⟨HB'.out, .inl ⟨HPL.out, rfl⟩⟩
  | some ff =>
    obtain ⟨hfp, hfx, hfy⟩ := HFB.out ff hfd
    rw [hfd] at CF HPL
    clear hfd HFB
    obtain ⟨f, x, y⟩ := ff
    simp only at HPL hfp hfx hfy
    have HKD := hid (kids_small hfp)
    have HLN := hid (lens_all (proper_lens hfp).1)
    have HWN := hid (lens_w (proper_lens hfp).1)
    by_cases hlen : f.kids.length = t0.kids.length
    rotate_left
    · have HP2 : Hid (res = none) := by show _ = _; rw [HPL.out, if_neg hlen]
      have e1 : ¬ ((f.kids.length : Int) = (t0.kids.length : Int)) := by omega
      have e2 : ((f.kids.length : Int) == (t0.kids.length : Int)) = false := by simp; omega
      have e3 : ((f.kids.length : Int) != (t0.kids.length : Int)) = true := by simp; omega
      have e4 : (f.kids.length == t0.kids.length) = false := by simp; omega
      clear HPL HKD HLN HWN HK hfp hfx hfy hk
      obtain ⟨hl2, hrz, hfz, hbw, hgz⟩ := KB.out W0 (Below.refl _ _)
      have m0 := hl2.node 0 _ rfl
      have m1 := hl2.node 1 _ rfl
      have m2 := hl2.node 2 _ rfl
      have m3 := hl2.node 3 _ rfl
      have n0 := hl2.box 0 _ rfl
      have n1 := hl2.box 1 _ rfl
      have n2 := hl2.box 2 _ rfl
      have n3 := hl2.box 3 _ rfl
      have n4 := hl2.box 4 _ rfl
      have n5 := hl2.box 5 _ rfl
      have n6 := hl2.box 6 _ rfl
      have n7 := hl2.box 7 _ rfl
      have n8 := hl2.box 8 _ rfl
      have n9 := hl2.box 9 _ rfl
      have n10 := hl2.box 10 _ rfl
      have r0 := hrz 0 _ rfl
      have r1 := hrz 1 _ rfl
      have r2 := hrz 2 _ rfl
      have r3 := hrz 3 _ rfl
      have f0 := hfz 0
      have f1 := hfz 1
      have f2 := hfz 2
      have f3 := hfz 3
      simp only [Nat.zero_add] at m0 m1 m2 m3 n0 n1 n2 n3 n4 n5 n6 n7 n8 n9 n10 r0 r1 r2 r3
      have HBW_W0 := hid hbw
      clear hl2 hrz hfz hbw hgz
      go_enter Tryz.func43, Tryz.ntmps43
      go_wp2_with fail
      clear hW0
      refine (CR.out _ HBW_W0.out).mono ?_
      rintro e w1 ⟨vr, rfl, hr1, hb1⟩
      obtain ⟨Av, cv, rfl⟩ := hr1.form
      have HT1 := hid hb1
      clear hb1 hr1
      clear m0 m1 m2 m3 n0 n1 n2 n3 n4 n5 n6 n7 n8 n9 n10 r0 r1 r2 r3 f0 f1 f2 f3
      go_upto_region 2 with fail
      obtain ⟨X1, hX1⟩ : ∃ X, w1.alloc (.cells #[.int .i64 t0.kind, .string t0.text, .int .i64 t0.cols, .slice Av t0.kids.length cv] 24) = X := ⟨_, rfl⟩
      have hx1 : Below w1.heap.size w1 X1 := by rw [← hX1]; exact bNew _ _
      have hxk : X1.cell? ⟨w1.heap.size, 3, none⟩ = some (.slice Av t0.kids.length cv) ∧ w1.heap.size < X1.heap.size := by rw [← hX1]; exact ⟨cNew _ _ _ _ _ rfl, by simp⟩
      have HXT := hid (bCl HT1.out hx1)
      have HXK := hid hxk
      rw [hX1]
      clear hX1 hx1 hxk
      obtain ⟨hl2, hrz, hfz, hbw, hgz⟩ := KB.out X1 HXT.out
      have n0 := hl2.box 0 _ rfl
      have n1 := hl2.box 1 _ rfl
      have n2 := hl2.box 2 _ rfl
      have n3 := hl2.box 3 _ rfl
      have n4 := hl2.box 4 _ rfl
      have n5 := hl2.box 5 _ rfl
      have n6 := hl2.box 6 _ rfl
      have n7 := hl2.box 7 _ rfl
      have n8 := hl2.box 8 _ rfl
      have n9 := hl2.box 9 _ rfl
      have n10 := hl2.box 10 _ rfl
      simp only [Nat.zero_add] at n0 n1 n2 n3 n4 n5 n6 n7 n8 n9 n10
      have HBW_X1 := hid hbw
      clear hl2 hrz hfz hbw hgz
      go_wp2_with fail
      refine (CF.out _ HBW_X1.out).mono ?_
      clear n0 n1 n2 n3 n4 n5 n6 n7 n8 n9 n10
      rintro e w2 ⟨hb2, ⟨h, _⟩ | ⟨f', x', y', Ar, cr, Br, cr', h, rfl, hok, hsr, hkr⟩⟩
      case inl => cases h
      cases h
      have HT2 := hid (bCl HXT.out hb2)
      have hkl := hkr.lens
      unfold maxLen at hkl
      have HKR := hid (show BoxesS w2 (Lt w.heap.size) f.kids (.slice Ar f.kids.length cr) from hkr.keep (fun p hp => (hb2.cell (Nat.lt_of_lt_of_le hp HBW_X1.out.size))) (fun _ h => h))
      have HXK2 := hid ((hb2.cell (p := ⟨w1.heap.size, 3, none⟩) HXK.out.2).trans HXK.out.1)
      have HZ12 := hid (Nat.lt_of_lt_of_le HXK.out.2 hb2.size)
      clear hb2 hok hsr hkr
      go_upto_region 3 with fail
      obtain ⟨X2, hX2⟩ : ∃ X, w2.alloc (.cells #[.int .i64 f.f.kind, .string f.f.name, .int .i64 f.f.size, .int .i64 f.f.w, .int .i64 f.f.h, .int .i64 f.f.d, .int .i64 f.f.x, .int .i64 f.f.y, .slice Ar f.kids.length cr, .int .i64 f.f.of_, .slice Br f.f.src.length cr'] 28) = X := ⟨_, rfl⟩
      have hx2 : Below w2.heap.size w2 X2 := by rw [← hX2]; exact bNew _ _
      have hbx : BoxL X2 w2.heap.size 0 (boxL f.f (.slice Ar f.kids.length cr) (.slice Br f.f.src.length cr')) ∧ w2.heap.size < X2.heap.size := by rw [← hX2]; exact ⟨BoxL.new _ _ _ _ rfl _ rfl, by simp⟩
      have HT3 := hid (bCl HT2.out hx2)
      have HBX := hid hbx
      have p3 := (hx2.cell (p := ⟨w1.heap.size, 3, none⟩) HZ12.out).trans HXK2.out
      have b8 := hbx.1 8 _ rfl
      have b4 := hbx.1 4 _ rfl
      have b5 := hbx.1 5 _ rfl
      simp only [Nat.zero_add] at b8 b4 b5
      have HX2 := hid hx2
      rw [hX2]
      clear hX2 hx2 hbx
      obtain ⟨hl2, hrz, hfz, hbw, hgz⟩ := KB.out X2 HT3.out
      have r0 := hrz 0 _ rfl
      have r1 := hrz 1 _ rfl
      have r2 := hrz 2 _ rfl
      have r3 := hrz 3 _ rfl
      have f0 := hfz 0
      have f1 := hfz 1
      have f2 := hfz 2
      have f3 := hfz 3
      simp only [Nat.zero_add] at r0 r1 r2 r3
      have HBW_X2 := hid hbw
      clear hl2 hrz hfz hbw hgz
      go_wp2_with fail
      generalize hW : (((X2.setCell _ (.slice none 0 0)).setCell _ (.int .i64 0)).setCell _ (.int .i64 0)).setCell _ (.int .i64 0) = WE
      obtain ⟨⟨z0, z1, z2, z3⟩, rz, rb, ro, _⟩ := four r0 r1 r2 r3 _ _ _ _ hW.symm
      have HB' := hid (rb w.heap.size w (by omega) HBW_X2.out)
      have HRO := hid ro
      have HRZ := hid rz
      clear hW ro rb rz
      refine bodyPost_ret (v := .tuple #[.agg #[.slice none 0 0, .int .i64 0, .int .i64 0, .int .i64 0], .bool false]) (by simp [results, Tryz.results43, go_sem, z0, z1, z2, z3]) rfl ?_
      exact ⟨HB'.out, .inl ⟨HP2.out, rfl⟩⟩
    · have HP2 : Hid (res = some ⟨q ++ [k], atS f x k.toNat, y + f.f.h, y - f.f.d⟩) := by show _ = _; rw [HPL.out, if_pos hlen]
      obtain ⟨l1, l2, l3, l4, l5, l6, l7, l8⟩ := HLN.out
      obtain ⟨top, htop⟩ : ∃ z, z = y + f.f.h := ⟨_, rfl⟩
      obtain ⟨bot, hbot⟩ : ∃ z, z = y - f.f.d := ⟨_, rfl⟩
      have v1 : IntKind.i64.wrap (y + f.f.h) = top := by rw [htop]; exact IntWalk.i64_in _ (by omega)
      have v2 : IntKind.i64.wrap (y - f.f.d) = bot := by rw [hbot]; exact IntWalk.i64_in _ (by omega)
      rw [← htop, ← hbot] at HP2
      clear htop hbot
      have HLEN := hid hlen
      have HK64 : Hid (In64 k) := by show In64 k; unfold In64; omega
      have HFX := hid hfx
      clear HPL HLN hfp hfy hk hlen l1 l2 l3 l4 l5 l6 l7 l8 hfx
      obtain ⟨hl2, hrz, hfz, hbw, hgz⟩ := KB.out W0 (Below.refl _ _)
      have m0 := hl2.node 0 _ rfl
      have m1 := hl2.node 1 _ rfl
      have m2 := hl2.node 2 _ rfl
      have m3 := hl2.node 3 _ rfl
      have n0 := hl2.box 0 _ rfl
      have n1 := hl2.box 1 _ rfl
      have n2 := hl2.box 2 _ rfl
      have n3 := hl2.box 3 _ rfl
      have n4 := hl2.box 4 _ rfl
      have n5 := hl2.box 5 _ rfl
      have n6 := hl2.box 6 _ rfl
      have n7 := hl2.box 7 _ rfl
      have n8 := hl2.box 8 _ rfl
      have n9 := hl2.box 9 _ rfl
      have n10 := hl2.box 10 _ rfl
      have r0 := hrz 0 _ rfl
      have r1 := hrz 1 _ rfl
      have r2 := hrz 2 _ rfl
      have r3 := hrz 3 _ rfl
      have f0 := hfz 0
      have f1 := hfz 1
      have f2 := hfz 2
      have f3 := hfz 3
      simp only [Nat.zero_add] at m0 m1 m2 m3 n0 n1 n2 n3 n4 n5 n6 n7 n8 n9 n10 r0 r1 r2 r3
      have HBW_W0 := hid hbw
      clear hl2 hrz hfz hbw hgz
      go_enter Tryz.func43, Tryz.ntmps43
      go_wp2_with fail
      clear hW0
      refine (CR.out _ HBW_W0.out).mono ?_
      rintro e w1 ⟨vr, rfl, hr1, hb1⟩
      obtain ⟨Av, cv, rfl⟩ := hr1.form
      have HT1 := hid hb1
      clear hb1 hr1
      clear m0 m1 m2 m3 n0 n1 n2 n3 n4 n5 n6 n7 n8 n9 n10 r0 r1 r2 r3 f0 f1 f2 f3
      go_upto_region 2 with fail
      obtain ⟨X1, hX1⟩ : ∃ X, w1.alloc (.cells #[.int .i64 t0.kind, .string t0.text, .int .i64 t0.cols, .slice Av t0.kids.length cv] 24) = X := ⟨_, rfl⟩
      have hx1 : Below w1.heap.size w1 X1 := by rw [← hX1]; exact bNew _ _
      have hxk : X1.cell? ⟨w1.heap.size, 3, none⟩ = some (.slice Av t0.kids.length cv) ∧ w1.heap.size < X1.heap.size := by rw [← hX1]; exact ⟨cNew _ _ _ _ _ rfl, by simp⟩
      have HXT := hid (bCl HT1.out hx1)
      have HXK := hid hxk
      rw [hX1]
      clear hX1 hx1 hxk
      obtain ⟨hl2, hrz, hfz, hbw, hgz⟩ := KB.out X1 HXT.out
      have n0 := hl2.box 0 _ rfl
      have n1 := hl2.box 1 _ rfl
      have n2 := hl2.box 2 _ rfl
      have n3 := hl2.box 3 _ rfl
      have n4 := hl2.box 4 _ rfl
      have n5 := hl2.box 5 _ rfl
      have n6 := hl2.box 6 _ rfl
      have n7 := hl2.box 7 _ rfl
      have n8 := hl2.box 8 _ rfl
      have n9 := hl2.box 9 _ rfl
      have n10 := hl2.box 10 _ rfl
      simp only [Nat.zero_add] at n0 n1 n2 n3 n4 n5 n6 n7 n8 n9 n10
      have HBW_X1 := hid hbw
      clear hl2 hrz hfz hbw hgz
      go_wp2_with fail
      refine (CF.out _ HBW_X1.out).mono ?_
      clear n0 n1 n2 n3 n4 n5 n6 n7 n8 n9 n10
      rintro e w2 ⟨hb2, ⟨h, _⟩ | ⟨f', x', y', Ar, cr, Br, cr', h, rfl, hok, hsr, hkr⟩⟩
      case inl => cases h
      cases h
      have HT2 := hid (bCl HXT.out hb2)
      have hkl := hkr.lens
      unfold maxLen at hkl
      have HKR := hid (show BoxesS w2 (Lt w.heap.size) f.kids (.slice Ar f.kids.length cr) from hkr.keep (fun p hp => (hb2.cell (Nat.lt_of_lt_of_le hp HBW_X1.out.size))) (fun _ h => h))
      have HXK2 := hid ((hb2.cell (p := ⟨w1.heap.size, 3, none⟩) HXK.out.2).trans HXK.out.1)
      have HZ12 := hid (Nat.lt_of_lt_of_le HXK.out.2 hb2.size)
      clear hb2 hok hsr hkr
      go_upto_region 3 with fail
      obtain ⟨X2, hX2⟩ : ∃ X, w2.alloc (.cells #[.int .i64 f.f.kind, .string f.f.name, .int .i64 f.f.size, .int .i64 f.f.w, .int .i64 f.f.h, .int .i64 f.f.d, .int .i64 f.f.x, .int .i64 f.f.y, .slice Ar f.kids.length cr, .int .i64 f.f.of_, .slice Br f.f.src.length cr'] 28) = X := ⟨_, rfl⟩
      have hx2 : Below w2.heap.size w2 X2 := by rw [← hX2]; exact bNew _ _
      have hbx : BoxL X2 w2.heap.size 0 (boxL f.f (.slice Ar f.kids.length cr) (.slice Br f.f.src.length cr')) ∧ w2.heap.size < X2.heap.size := by rw [← hX2]; exact ⟨BoxL.new _ _ _ _ rfl _ rfl, by simp⟩
      have HT3 := hid (bCl HT2.out hx2)
      have HBX := hid hbx
      have p3 := (hx2.cell (p := ⟨w1.heap.size, 3, none⟩) HZ12.out).trans HXK2.out
      have b8 := hbx.1 8 _ rfl
      have b4 := hbx.1 4 _ rfl
      have b5 := hbx.1 5 _ rfl
      simp only [Nat.zero_add] at b8 b4 b5
      have HX2 := hid hx2
      rw [hX2]
      clear hX2 hx2 hbx
      rw [← HLEN.out] at p3
      have KX : Hid (∀ W, Below X2.heap.size X2 W → BoxL W w2.heap.size 0 (boxL f.f (.slice Ar f.kids.length cr) (.slice Br f.f.src.length cr')) ∧ BoxesS W (Lt w.heap.size) f.kids (.slice Ar f.kids.length cr) ∧ Below W0.heap.size W0 W) := fun W hW => by
        have h := HX2.out.trans (hW.mono HX2.out.size)
        exact ⟨HBX.out.1.below hW HBX.out.2, HKR.out.keep (fun p hp => h.cell (Nat.lt_of_lt_of_le hp (KB.out w2 HT2.out).2.2.2.1.size)) (fun _ h => h), bCl HT3.out hW⟩
      have HPX : Hid (∀ W, Below X2.heap.size X2 W → IntsR W (Lt w.heap.size) q (.slice Ap q.length cp)) := fun W hW => HP.out W (KB.out W (KX.out W hW).2.2).2.2.2.1
      have HG12 : Hid (w2.heap.size < X2.heap.size) := HBX.out.2
      go_upto_region 5 with fail
      go_cut [16] (fun p wx => ∃ g A' c', p = .pointer (some ⟨g, 0, none⟩) ∧ RowC X2 wx g A' c' (q.length + 1) 0 top bot (q ++ [k]))
      case first =>
        have ne0 : ¬ (w2.heap.size = X2.heap.size) := Nat.ne_of_lt HG12.out
        have ne1 : ¬ (w2.heap.size = X2.heap.size + 1) := by have := HG12.out; omega
        have ne2 : ¬ (w2.heap.size = X2.heap.size + 1 + 1) := by have := HG12.out; omega
        have me0 : ¬ (X2.heap.size = w2.heap.size) := fun h => ne0 h.symm
        have me1 : ¬ (X2.heap.size + 1 = w2.heap.size) := fun h => ne1 h.symm
        have me2 : ¬ (X2.heap.size + 1 + 1 = w2.heap.size) := fun h => ne2 h.symm
        have ne5 : ¬ (w2.heap.size = X2.heap.size + 2) := ne2
        have me5 : ¬ (X2.heap.size + 2 = w2.heap.size) := me2
        clear p3 b8
        have HQX : Hid ((q ++ [k]).length = q.length + 1) := by show _ = _; simp
        have A34 : ∀ o1 o2 o3 : Obj, (((X2.alloc o1).alloc o2).alloc o3).drew.cell? ⟨w2.heap.size, 4, none⟩ = some (.int .i64 f.f.h) := fun o1 o2 o3 => ((bAl (bAl (bNew X2 o1) o2) o3).cell (p := ⟨w2.heap.size, 4, none⟩) HG12.out).trans b4
        have A35 : ∀ o1 o2 o3 : Obj, (((X2.alloc o1).alloc o2).alloc o3).drew.cell? ⟨w2.heap.size, 5, none⟩ = some (.int .i64 f.f.d) := fun o1 o2 o3 => ((bAl (bAl (bNew X2 o1) o2) o3).cell (p := ⟨w2.heap.size, 5, none⟩) HG12.out).trans b5
        have B4 := hid b4
        have B5 := hid b5
        go_wp2_with fail
        go_region_held3 (fun w' => w'.cell? ⟨w2.heap.size, 4, none⟩ = some (.int .i64 f.f.h) ∧ w'.cell? ⟨w2.heap.size, 5, none⟩ = some (.int .i64 f.f.d)) (go_keep) (first
          | (refine step_app_intsR (by rfl) (.tmp 45) (.tmp 46) (by rfl) X2.heap.size _ [] q (by rfl) (own_emp (by ((repeat (first | with_reducible exact HasObj.new _ _ _ (by first | rfl | (simp; done) | fail) | with_reducible refine HasObj.dr ?_ | with_reducible refine HasObj.al _ ?_ | fail)); done)) (by omega)) (Lt w.heap.size) _ _ _ (by rfl) (HPX.out _ (by (repeat (first | with_reducible exact Below.refl _ _ | with_reducible refine Below.drew ?_ | with_reducible refine bAl ?_ _ | fail)))) (by simp; omega) (by simp; try omega) ?_; intro v1 w3 hown1 hb1 hg1; have HC1 := hid (fun g o (h : HasObj _ g o) hn => HasObj.grown h hg1 hn); (first | (have HZ3 := hid (HC1.out _ (.cells #[.slice none 0 0, .int .i64 0, .int .i64 0, .int .i64 0] 36) (HasObj.dr (HasObj.at2 _ _ _ _)) (by simp [Value.ownBlock] <;> omega))) | (have HZ3 := hid (HC1.out _ (.cells #[.slice none 0 0, .int .i64 0, .int .i64 0, .int .i64 0] 36) (HasObj.dr (HasObj.al _ (HasObj.at1 _ _ _))) (by simp [Value.ownBlock] <;> omega))) | (have HZ3 := hid (HC1.out _ (.cells #[.slice none 0 0, .int .i64 0, .int .i64 0, .int .i64 0] 36) (HasObj.dr (HasObj.at1 _ _ _)) (by simp [Value.ownBlock] <;> omega))) | (have HZ3 := hid (HC1.out _ (.cells #[.slice none 0 0, .int .i64 0, .int .i64 0, .int .i64 0] 36) (HasObj.dr (HasObj.al _ (HasObj.al _ (HasObj.at0 _ _)))) (by simp [Value.ownBlock] <;> omega))) | (have HZ3 := hid (HC1.out _ (.cells #[.slice none 0 0, .int .i64 0, .int .i64 0, .int .i64 0] 36) (HasObj.dr (HasObj.al _ (HasObj.at0 _ _))) (by simp [Value.ownBlock] <;> omega))) | skip); have HO1 := hid hown1; have HB1 : Hid (Below X2.heap.size X2 w3) := (show Below X2.heap.size X2 _ by (repeat (first | with_reducible exact Below.refl _ _ | with_reducible refine Below.drew ?_ | with_reducible refine bAl ?_ _ | fail))).trans hb1; have b4 := (HB1.out.cell (p := ⟨w2.heap.size, 4, none⟩) HG12.out).trans B4.out; have b5 := (HB1.out.cell (p := ⟨w2.heap.size, 5, none⟩) HG12.out).trans B5.out; have ne3 : ¬ (w2.heap.size = w3.heap.size) := Nat.ne_of_lt (Nat.lt_of_lt_of_le HG12.out HB1.out.size); have ne4 : ¬ (w2.heap.size = w3.heap.size + 1) := Nat.ne_of_lt (Nat.lt_succ_of_lt (Nat.lt_of_lt_of_le HG12.out HB1.out.size)); have me3 : ¬ (w3.heap.size = w2.heap.size) := fun h => ne3 h.symm; have me4 : ¬ (w3.heap.size + 1 = w2.heap.size) := fun h => ne4 h.symm; clear hown1 hb1 hg1)
          | (refine step_app_intsR (by rfl) (.tmp 47) (.tmp 49) (by rfl) X2.heap.size v1 ([] ++ q) [k] (by rfl) (HO1.out.below (by (repeat (first | with_reducible exact Below.refl _ _ | with_reducible refine Below.drew ?_ | with_reducible refine bAl ?_ _ | fail)))) (fun z => z = _) _ _ _ (by rfl) (one_int (by ((repeat (first | with_reducible exact HasObj.new _ _ _ (by first | rfl | (simp; done) | fail) | with_reducible refine HasObj.dr ?_ | with_reducible refine HasObj.al _ ?_ | with_reducible exact HC1.out _ _ (by ((repeat (first | with_reducible exact HasObj.new _ _ _ (by first | rfl | (simp; done) | fail) | with_reducible refine HasObj.dr ?_ | with_reducible refine HasObj.al _ ?_ | fail)); done)) (by first | ((simp [Value.ownBlock] <;> omega); done) | fail) | fail)); done)) HK64.out) (by simp; omega) (by have := HB1.out.size; simp; try omega) ?_; intro v2 w4 hown2 hb2 hg2; have HC2 := hid (fun g (h : HasObj _ g (.cells #[.slice none 0 0, .int .i64 0, .int .i64 0, .int .i64 0] 36)) => HasObj.grown h hg2 (own_ne (HO1.out.below (by (repeat (first | with_reducible exact Below.refl _ _ | with_reducible refine Below.drew ?_ | with_reducible refine bAl ?_ _ | fail)))) h (by decide))); simp only [List.nil_append] at hown2; have hi2 := hown2.ints (S := fun z => X2.heap.size ≤ z ∧ z < w4.heap.size) (fun _ h1 h2 => ⟨h1, h2⟩); obtain ⟨A2, c2, rfl⟩ := hi2.form; rw [HQX.out] at hi2 hown2; have HO2 := hid hown2; have HI2 := hid hi2; have HB2 : Hid (Below X2.heap.size X2 w4) := (HB1.out.trans ((show Below w3.heap.size w3 _ by (repeat (first | with_reducible exact Below.refl _ _ | with_reducible refine Below.drew ?_ | with_reducible refine bAl ?_ _ | fail))).mono HB1.out.size)).trans hb2; have b4 := (HB2.out.cell (p := ⟨w2.heap.size, 4, none⟩) HG12.out).trans B4.out; have b5 := (HB2.out.cell (p := ⟨w2.heap.size, 5, none⟩) HG12.out).trans B5.out; (first | (have hz := HC2.out _ (HasObj.al _ HZ3.out)) | (have hz := HC2.out _ HZ3.out) | (have hz := HC2.out _ (HasObj.at1 _ _ _)) | (have hz := HC2.out _ (HasObj.al _ (HasObj.at0 _ _))) | (have hz := HC2.out _ (HasObj.at0 _ _)) | skip); (try (have HZ4 := hid hz; have HIN := hid (ints_ne HO2.out hz (by decide)); obtain ⟨z0, z1, z2, z3, y0, y1, y2, y3⟩ := zfacts hz; clear hz)); clear hown2 hb2 hg2 hi2))
        all_goals
          go_wp2_with fail
          go_meet
          first
            | (with_reducible exact ⟨_, _, _, rfl, RowC.last _ HI2.out HB2.out _ rfl⟩)
            | (with_reducible exact ⟨_, _, _, rfl, RowC.stored HZ4.out HIN.out HB2.out (by have := HB1.out.size; omega) rfl⟩)
      case rest =>
        obtain ⟨g, A', c', rfl, hrc⟩ := hcut
        have HRC := hid hrc
        clear hrc b8 b4 b5 p3
        obtain ⟨kk, rfl⟩ : ∃ kk : Nat, k = kk := ⟨k.toNat, by have := HK.out.1; omega⟩
        have hkn : kk ≤ f.kids.length := by have := HK.out.2; have := HLEN.out; omega
        have HKN := hid hkn
        have hnl : f.kids.length ≤ 1000000 := by have := HLEN.out; omega
        have HG2 : Hid (w.heap.size + 2 < X2.heap.size) := (KB.out X2 HT3.out).2.2.2.2
        have HH := hid (fun n W => rHalf_q n W)
        rw [Int.toNat_natCast] at HP2
        have HFXX := HFX.out
        clear hkl
        by_cases h0 : f.kids.length = 0
        · have HP3 : Hid (res = some ⟨q ++ [(kk : Int)], x + halfS f.f.w, top, bot⟩) := by show _ = _; rw [HP2.out, atS, if_pos h0]
          have hh := half_bd f.f.w
          have v3 : IntKind.i64.wrap (x + halfS f.f.w) = x + halfS f.f.w := IntWalk.i64_in _ (by omega)
          obtain ⟨X, hX⟩ : ∃ X, X = x + halfS f.f.w := ⟨_, rfl⟩
          rw [← hX] at HP3
          replace v3 : IntKind.i64.wrap (x + halfS f.f.w) = X := by rw [v3, hX]
          have i0 : ((f.kids.length : Int) == 0) = true := by simp [h0]
          have i0' : (f.kids.length == 0) = true := by simp [h0]
          clear h0 hX hkn hnl
          obtain ⟨hbx, hks, hT⟩ := KX.out wc HRC.out.below
          have b3 := hbx 3 _ rfl
          have b8 := hbx 8 _ rfl
          have hrcb := HRC.out.box
          have u0 := hrcb 0 _ rfl
          have u1 := hrcb 1 _ rfl
          have u2 := hrcb 2 _ rfl
          have u3 := hrcb 3 _ rfl
          have uf0 := HRC.out.free 0
          have uf1 := HRC.out.free 1
          have uf2 := HRC.out.free 2
          have uf3 := HRC.out.free 3
          obtain ⟨_, hrz, hfz, hbw, _⟩ := KB.out wc hT
          have r0 := hrz 0 _ rfl
          have r1 := hrz 1 _ rfl
          have r2 := hrz 2 _ rfl
          have r3 := hrz 3 _ rfl
          have f0 := hfz 0
          have f1 := hfz 1
          have f2 := hfz 2
          have f3 := hfz 3
          simp only [Nat.zero_add] at b3 b8 u0 u1 u2 u3 r0 r1 r2 r3
          have HBW_wc := hid hbw
          clear hbx hks hT hrcb hrz hfz hbw
          go_wp2_with fail
          refine (HH.out _ _).mono ?_
          rintro e w5 ⟨rfl, rfl⟩
          go_upto_region 15 with fail
          generalize hS : World.setCell wc _ (.int .i64 X) = W5
          have HRC5 := hid (HRC.out.set _ hS.symm)
          clear hS
          clear b3 b8 u0 u1 u2 u3 uf0 uf1 uf2 uf3 r0 r1 r2 r3 f0 f1 f2 f3
          obtain ⟨hbx, hks, hT⟩ := KX.out W5 HRC5.out.below
          have b3 := hbx 3 _ rfl
          have b8 := hbx 8 _ rfl
          have hrcb := HRC5.out.box
          have u0 := hrcb 0 _ rfl
          have u1 := hrcb 1 _ rfl
          have u2 := hrcb 2 _ rfl
          have u3 := hrcb 3 _ rfl
          have uf0 := HRC5.out.free 0
          have uf1 := HRC5.out.free 1
          have uf2 := HRC5.out.free 2
          have uf3 := HRC5.out.free 3
          obtain ⟨_, hrz, hfz, hbw, _⟩ := KB.out W5 hT
          have r0 := hrz 0 _ rfl
          have r1 := hrz 1 _ rfl
          have r2 := hrz 2 _ rfl
          have r3 := hrz 3 _ rfl
          have f0 := hfz 0
          have f1 := hfz 1
          have f2 := hfz 2
          have f3 := hfz 3
          simp only [Nat.zero_add] at b3 b8 u0 u1 u2 u3 r0 r1 r2 r3
          have HBW_W5 := hid hbw
          clear hbx hks hT hrcb hrz hfz hbw
          go_wp2_with fail
          generalize hW : (((W5.setCell _ (.slice A' (q.length + 1) c')).setCell _ (.int .i64 (X))).setCell _ (.int .i64 top)).setCell _ (.int .i64 bot) = WE
          obtain ⟨⟨z0, z1, z2, z3⟩, rz, rb, ro, _⟩ := four r0 r1 r2 r3 _ _ _ _ hW.symm
          have HB' := hid (rb w.heap.size w (by omega) HBW_W5.out)
          have HRO := hid ro
          have HRZ := hid rz
          clear hW ro rb rz
          refine bodyPost_ret (v := .tuple #[.agg #[.slice A' (q.length + 1) c', .int .i64 (X), .int .i64 top, .int .i64 bot], .bool true]) (by simp [results, Tryz.results43, go_sem, z0, z1, z2, z3]) rfl ?_
          have HI' : IntsR WE (fun z => w.heap.size ≤ z ∧ z < WE.heap.size) (q ++ [(kk : Int)]) (.slice A' (q.length + 1) c') := HRC5.out.ints.keep (fun p hp => HRO.out p (Nat.ne_of_gt (Nat.lt_of_lt_of_le HG2.out hp.1))) (fun z hz => ⟨Nat.le_of_lt (Nat.lt_of_lt_of_le (Nat.lt_of_le_of_lt (Nat.le_add_right _ 2) HG2.out) hz.1), by rw [HRZ.out]; exact hz.2.1⟩)
          exact ⟨HB'.out, .inr ⟨_, _, HP3.out, rfl, HI'⟩⟩
        · have i0 : ((f.kids.length : Int) == 0) = false := by rw [beq_eq_false_iff_ne]; omega
          have i0' : (f.kids.length == 0) = false := by rw [beq_eq_false_iff_ne]; exact h0
          by_cases h1 : kk = 0
          · have hkd := HKD.out 0 (by omega)
            have HP3 : Hid (res = some ⟨q ++ [(kk : Int)], x + f.kids[0].f.x, top, bot⟩) := by show _ = _; rw [HP2.out, atS, if_neg h0, if_pos h1, kX_at (by omega)]
            have v3 : IntKind.i64.wrap (x + f.kids[0].f.x) = x + f.kids[0].f.x := IntWalk.i64_in _ (by omega)
            have j1 : ((kk : Int) == 0) = true := by simp [h1]
            have j1' : (kk == 0) = true := by simp [h1]
            have j2 : (0 : Int) < (f.kids.length : Int) := by omega
            have j3 : 0 < f.kids.length := by omega
            obtain ⟨hbx, hks, hT⟩ := KX.out wc HRC.out.below
            have b3 := hbx 3 _ rfl
            have b8 := hbx 8 _ rfl
            have hrcb := HRC.out.box
            have u0 := hrcb 0 _ rfl
            have u1 := hrcb 1 _ rfl
            have u2 := hrcb 2 _ rfl
            have u3 := hrcb 3 _ rfl
            have uf0 := HRC.out.free 0
            have uf1 := HRC.out.free 1
            have uf2 := HRC.out.free 2
            have uf3 := HRC.out.free 3
            obtain ⟨_, hrz, hfz, hbw, _⟩ := KB.out wc hT
            have r0 := hrz 0 _ rfl
            have r1 := hrz 1 _ rfl
            have r2 := hrz 2 _ rfl
            have r3 := hrz 3 _ rfl
            have f0 := hfz 0
            have f1 := hfz 1
            have f2 := hfz 2
            have f3 := hfz 3
            simp only [Nat.zero_add] at b3 b8 u0 u1 u2 u3 r0 r1 r2 r3
            have HBW_wc := hid hbw
            have kac := hks
            obtain ⟨_, _, kars, kaq, _, _, kard, kals⟩ := kac
            cases kaq
            obtain ⟨kag, kao, kaA, kan, kav, kae, _, ka11, _, _, _⟩ := boxes_at kard kals j3
            cases kae
            have ka3 := ka11.c3
            have ka6 := ka11.c6
            clear kard kals ka11
            clear hbx hks hT hrcb hrz hfz hbw
            simp only [Nat.zero_mul, Nat.add_zero] at ka6
            generalize f.kids[0].f.x = kx at *
            obtain ⟨X, hX⟩ : ∃ X, X = x + kx := ⟨_, rfl⟩
            rw [← hX] at HP3
            replace v3 : IntKind.i64.wrap (x + kx) = X := by rw [v3, hX]
            clear h0 h1 hX hkn hnl hkd ka3
            go_upto_region 15 with fail
            generalize hS : World.setCell wc _ (.int .i64 X) = W5
            have HRC5 := hid (HRC.out.set _ hS.symm)
            clear hS ka6
            clear b3 b8 u0 u1 u2 u3 uf0 uf1 uf2 uf3 r0 r1 r2 r3 f0 f1 f2 f3
            obtain ⟨hbx, hks, hT⟩ := KX.out W5 HRC5.out.below
            have b3 := hbx 3 _ rfl
            have b8 := hbx 8 _ rfl
            have hrcb := HRC5.out.box
            have u0 := hrcb 0 _ rfl
            have u1 := hrcb 1 _ rfl
            have u2 := hrcb 2 _ rfl
            have u3 := hrcb 3 _ rfl
            have uf0 := HRC5.out.free 0
            have uf1 := HRC5.out.free 1
            have uf2 := HRC5.out.free 2
            have uf3 := HRC5.out.free 3
            obtain ⟨_, hrz, hfz, hbw, _⟩ := KB.out W5 hT
            have r0 := hrz 0 _ rfl
            have r1 := hrz 1 _ rfl
            have r2 := hrz 2 _ rfl
            have r3 := hrz 3 _ rfl
            have f0 := hfz 0
            have f1 := hfz 1
            have f2 := hfz 2
            have f3 := hfz 3
            simp only [Nat.zero_add] at b3 b8 u0 u1 u2 u3 r0 r1 r2 r3
            have HBW_W5 := hid hbw
            clear hbx hks hT hrcb hrz hfz hbw
            go_wp2_with fail
            generalize hW : (((W5.setCell _ (.slice A' (q.length + 1) c')).setCell _ (.int .i64 (X))).setCell _ (.int .i64 top)).setCell _ (.int .i64 bot) = WE
            obtain ⟨⟨z0, z1, z2, z3⟩, rz, rb, ro, _⟩ := four r0 r1 r2 r3 _ _ _ _ hW.symm
            have HB' := hid (rb w.heap.size w (by omega) HBW_W5.out)
            have HRO := hid ro
            have HRZ := hid rz
            clear hW ro rb rz
            refine bodyPost_ret (v := .tuple #[.agg #[.slice A' (q.length + 1) c', .int .i64 (X), .int .i64 top, .int .i64 bot], .bool true]) (by simp [results, Tryz.results43, go_sem, z0, z1, z2, z3]) rfl ?_
            have HI' : IntsR WE (fun z => w.heap.size ≤ z ∧ z < WE.heap.size) (q ++ [(kk : Int)]) (.slice A' (q.length + 1) c') := HRC5.out.ints.keep (fun p hp => HRO.out p (Nat.ne_of_gt (Nat.lt_of_lt_of_le HG2.out hp.1))) (fun z hz => ⟨Nat.le_of_lt (Nat.lt_of_lt_of_le (Nat.lt_of_le_of_lt (Nat.le_add_right _ 2) HG2.out) hz.1), by rw [HRZ.out]; exact hz.2.1⟩)
            exact ⟨HB'.out, .inr ⟨_, _, HP3.out, rfl, HI'⟩⟩
          · obtain ⟨km, hkm⟩ : ∃ km, kk = km + 1 := ⟨kk - 1, by omega⟩
            have hkd := HKD.out km (by omega)
            have hE : endS f.kids x (kk - 1) = x + f.kids[km].f.x + f.kids[km].f.w := by
              have e : kk - 1 = km := by omega
              rw [e, endS, kX_at (by omega), kW_at (by omega)]
            obtain ⟨xk, hxk⟩ : ∃ z, z = x + f.kids[km].f.x := ⟨_, rfl⟩
            have v3 : IntKind.i64.wrap (x + f.kids[km].f.x) = xk := by rw [hxk]; exact IntWalk.i64_in _ (by omega)
            obtain ⟨E, hEE⟩ : ∃ E, E = x + f.kids[km].f.x + f.kids[km].f.w := ⟨_, rfl⟩
            have v4 : IntKind.i64.wrap (xk + f.kids[km].f.w) = E := by rw [hxk, hEE]; exact IntWalk.i64_in _ (by omega)
            have v5 : IntKind.i64.wrap ((kk : Int) - 1) = (km : Int) := by rw [hkm]; rw [IntWalk.i64_in _ (by omega)]; omega
            have j1 : ((kk : Int) == 0) = false := by rw [beq_eq_false_iff_ne]; omega
            have j1' : (kk == 0) = false := by rw [beq_eq_false_iff_ne]; exact h1
            have hj : km < f.kids.length := by omega
            have j2 : (km : Int) < (f.kids.length : Int) := by omega
            have j3 : (0 : Int) ≤ (km : Int) := by omega
            obtain ⟨hbx, hks, hT⟩ := KX.out wc HRC.out.below
            have b3 := hbx 3 _ rfl
            have b8 := hbx 8 _ rfl
            have hrcb := HRC.out.box
            have u0 := hrcb 0 _ rfl
            have u1 := hrcb 1 _ rfl
            have u2 := hrcb 2 _ rfl
            have u3 := hrcb 3 _ rfl
            have uf0 := HRC.out.free 0
            have uf1 := HRC.out.free 1
            have uf2 := HRC.out.free 2
            have uf3 := HRC.out.free 3
            obtain ⟨_, hrz, hfz, hbw, _⟩ := KB.out wc hT
            have r0 := hrz 0 _ rfl
            have r1 := hrz 1 _ rfl
            have r2 := hrz 2 _ rfl
            have r3 := hrz 3 _ rfl
            have f0 := hfz 0
            have f1 := hfz 1
            have f2 := hfz 2
            have f3 := hfz 3
            simp only [Nat.zero_add] at b3 b8 u0 u1 u2 u3 r0 r1 r2 r3
            have HBW_wc := hid hbw
            have kac := hks
            obtain ⟨_, _, kars, kaq, _, _, kard, kals⟩ := kac
            cases kaq
            obtain ⟨kag, kao, kaA, kan, kav, kae, _, ka11, _, _, _⟩ := boxes_at kard kals hj
            cases kae
            have ka3 := ka11.c3
            have ka6 := ka11.c6
            clear kard kals ka11
            clear hbx hks hT hrcb hrz hfz hbw
            have hEb : -2305843009213693952 ≤ E ∧ E ≤ 2305843009213693952 := by omega
            rw [← hE] at hEE
            have HEE := hid hEE
            have HEB := hid hEb
            generalize f.kids[km].f.x = kx at *
            generalize f.kids[km].f.w = kw at *
            clear hxk hE hEE hEb hkd hkn
            by_cases h2 : kk < f.kids.length
            · have j4 : decide ((kk : Int) < (f.kids.length : Int)) = true := by rw [decide_eq_true_eq]; omega
              have j4' : decide (kk < f.kids.length) = true := decide_eq_true h2
              have hkd := HKD.out kk h2
              have HXX : Hid (-2305843009213693952 ≤ x + f.kids[kk].f.x ∧ x + f.kids[kk].f.x ≤ 2305843009213693952) := by show _ ∧ _; omega
              have HP3' : Hid (res = some ⟨q ++ [(kk : Int)], E + halfS (x + f.kids[kk].f.x - E), top, bot⟩) := by show _ = _; rw [HP2.out, atS, if_neg h0, if_neg h1, if_neg (by omega), ← HEE.out, kX_at h2]
              clear h0 h1 hkm hkd hnl
              go_upto_region 7 with fail
              go_quiet (fail)
              go_upto_region 9 with fail
              generalize hS : World.setCell _ _ (.int .i64 E) = W5
              have HRC5 := hid ((HRC.out.dr _).set _ hS.symm)
              clear hS ka3 ka6
              clear b3 b8 u0 u1 u2 u3 uf0 uf1 uf2 uf3 r0 r1 r2 r3 f0 f1 f2 f3
              obtain ⟨hbx, hks, hT⟩ := KX.out W5 HRC5.out.below
              have b3 := hbx 3 _ rfl
              have b8 := hbx 8 _ rfl
              have hrcb := HRC5.out.box
              have u0 := hrcb 0 _ rfl
              have u1 := hrcb 1 _ rfl
              have u2 := hrcb 2 _ rfl
              have u3 := hrcb 3 _ rfl
              have uf0 := HRC5.out.free 0
              have uf1 := HRC5.out.free 1
              have uf2 := HRC5.out.free 2
              have uf3 := HRC5.out.free 3
              obtain ⟨_, hrz, hfz, hbw, _⟩ := KB.out W5 hT
              have r0 := hrz 0 _ rfl
              have r1 := hrz 1 _ rfl
              have r2 := hrz 2 _ rfl
              have r3 := hrz 3 _ rfl
              have f0 := hfz 0
              have f1 := hfz 1
              have f2 := hfz 2
              have f3 := hfz 3
              simp only [Nat.zero_add] at b3 b8 u0 u1 u2 u3 r0 r1 r2 r3
              have HBW_W5 := hid hbw
              have kbc := hks
              obtain ⟨_, _, kbrs, kbq, _, _, kbrd, kbls⟩ := kbc
              cases kbq
              obtain ⟨kbg, kbo, kbA, kbn, kbv, kbe, _, kb11, _, _, _⟩ := boxes_at kbrd kbls h2
              cases kbe
              have kb3 := kb11.c3
              have kb6 := kb11.c6
              clear kbrd kbls kb11
              clear hbx hks hT hrcb hrz hfz hbw
              generalize f.kids[kk].f.x = ky at *
              have hh := half_bd (x + ky - E)
              have v6 : IntKind.i64.wrap (x + ky) = x + ky := IntWalk.i64_in _ (by have := HXX.out; omega)
              have v7 : IntKind.i64.wrap (x + ky - E) = x + ky - E := IntWalk.i64_in _ (by have := HXX.out; have := HEB.out; omega)
              obtain ⟨X, hX⟩ : ∃ X, X = E + halfS (x + ky - E) := ⟨_, rfl⟩
              have v8 : IntKind.i64.wrap (E + halfS (x + ky - E)) = X := by rw [hX]; exact IntWalk.i64_in _ (by have := HEB.out; omega)
              have HP3 : Hid (res = some ⟨q ++ [(kk : Int)], X, top, bot⟩) := by show _ = _; rw [HP3'.out, hX]
              have j5 : (kk : Int) < (f.kids.length : Int) := by omega
              have j6 : (0 : Int) ≤ (kk : Int) := by omega
              clear hX hh
              go_wp2_with fail
              refine (HH.out _ _).mono ?_
              rintro e w6 ⟨rfl, rfl⟩
              go_upto_region 15 with fail
              generalize hS : World.setCell W5 _ (.int .i64 X) = W6
              have HRC6 := hid (HRC5.out.set _ hS.symm)
              clear hS kb3 kb6
              clear b3 b8 u0 u1 u2 u3 uf0 uf1 uf2 uf3 r0 r1 r2 r3 f0 f1 f2 f3
              obtain ⟨hbx, hks, hT⟩ := KX.out W6 HRC6.out.below
              have b3 := hbx 3 _ rfl
              have b8 := hbx 8 _ rfl
              have hrcb := HRC6.out.box
              have u0 := hrcb 0 _ rfl
              have u1 := hrcb 1 _ rfl
              have u2 := hrcb 2 _ rfl
              have u3 := hrcb 3 _ rfl
              have uf0 := HRC6.out.free 0
              have uf1 := HRC6.out.free 1
              have uf2 := HRC6.out.free 2
              have uf3 := HRC6.out.free 3
              obtain ⟨_, hrz, hfz, hbw, _⟩ := KB.out W6 hT
              have r0 := hrz 0 _ rfl
              have r1 := hrz 1 _ rfl
              have r2 := hrz 2 _ rfl
              have r3 := hrz 3 _ rfl
              have f0 := hfz 0
              have f1 := hfz 1
              have f2 := hfz 2
              have f3 := hfz 3
              simp only [Nat.zero_add] at b3 b8 u0 u1 u2 u3 r0 r1 r2 r3
              have HBW_W6 := hid hbw
              clear hbx hks hT hrcb hrz hfz hbw
              go_wp2_with fail
              generalize hW : (((W6.setCell _ (.slice A' (q.length + 1) c')).setCell _ (.int .i64 (X))).setCell _ (.int .i64 top)).setCell _ (.int .i64 bot) = WE
              obtain ⟨⟨z0, z1, z2, z3⟩, rz, rb, ro, _⟩ := four r0 r1 r2 r3 _ _ _ _ hW.symm
              have HB' := hid (rb w.heap.size w (by omega) HBW_W6.out)
              have HRO := hid ro
              have HRZ := hid rz
              clear hW ro rb rz
              refine bodyPost_ret (v := .tuple #[.agg #[.slice A' (q.length + 1) c', .int .i64 (X), .int .i64 top, .int .i64 bot], .bool true]) (by simp [results, Tryz.results43, go_sem, z0, z1, z2, z3]) rfl ?_
              have HI' : IntsR WE (fun z => w.heap.size ≤ z ∧ z < WE.heap.size) (q ++ [(kk : Int)]) (.slice A' (q.length + 1) c') := HRC6.out.ints.keep (fun p hp => HRO.out p (Nat.ne_of_gt (Nat.lt_of_lt_of_le HG2.out hp.1))) (fun z hz => ⟨Nat.le_of_lt (Nat.lt_of_lt_of_le (Nat.lt_of_le_of_lt (Nat.le_add_right _ 2) HG2.out) hz.1), by rw [HRZ.out]; exact hz.2.1⟩)
              exact ⟨HB'.out, .inr ⟨_, _, HP3.out, rfl, HI'⟩⟩
            · have j4 : decide ((kk : Int) < (f.kids.length : Int)) = false := by rw [decide_eq_false_iff_not]; omega
              have j4' : decide (kk < f.kids.length) = false := decide_eq_false h2
              have HP3 : Hid (res = some ⟨q ++ [(kk : Int)], E, top, bot⟩) := by show _ = _; rw [HP2.out, atS, if_neg h0, if_neg h1, if_pos (by have := HKN.out; omega), ← HEE.out]
              clear h0 h1 h2 hkm hnl
              go_upto_region 7 with fail
              go_quiet (fail)
              go_upto_region 9 with fail
              generalize hS : World.setCell _ _ (.int .i64 E) = W5
              have HRC5 := hid ((HRC.out.dr _).set _ hS.symm)
              clear hS ka3 ka6
              clear b3 b8 u0 u1 u2 u3 uf0 uf1 uf2 uf3 r0 r1 r2 r3 f0 f1 f2 f3
              obtain ⟨hbx, hks, hT⟩ := KX.out W5 HRC5.out.below
              have b3 := hbx 3 _ rfl
              have b8 := hbx 8 _ rfl
              have hrcb := HRC5.out.box
              have u0 := hrcb 0 _ rfl
              have u1 := hrcb 1 _ rfl
              have u2 := hrcb 2 _ rfl
              have u3 := hrcb 3 _ rfl
              have uf0 := HRC5.out.free 0
              have uf1 := HRC5.out.free 1
              have uf2 := HRC5.out.free 2
              have uf3 := HRC5.out.free 3
              obtain ⟨_, hrz, hfz, hbw, _⟩ := KB.out W5 hT
              have r0 := hrz 0 _ rfl
              have r1 := hrz 1 _ rfl
              have r2 := hrz 2 _ rfl
              have r3 := hrz 3 _ rfl
              have f0 := hfz 0
              have f1 := hfz 1
              have f2 := hfz 2
              have f3 := hfz 3
              simp only [Nat.zero_add] at b3 b8 u0 u1 u2 u3 r0 r1 r2 r3
              have HBW_W5 := hid hbw
              clear hbx hks hT hrcb hrz hfz hbw
              go_wp2_with fail
              generalize hW : (((W5.setCell _ (.slice A' (q.length + 1) c')).setCell _ (.int .i64 (E))).setCell _ (.int .i64 top)).setCell _ (.int .i64 bot) = WE
              obtain ⟨⟨z0, z1, z2, z3⟩, rz, rb, ro, _⟩ := four r0 r1 r2 r3 _ _ _ _ hW.symm
              have HB' := hid (rb w.heap.size w (by omega) HBW_W5.out)
              have HRO := hid ro
              have HRZ := hid rz
              clear hW ro rb rz
              refine bodyPost_ret (v := .tuple #[.agg #[.slice A' (q.length + 1) c', .int .i64 (E), .int .i64 top, .int .i64 bot], .bool true]) (by simp [results, Tryz.results43, go_sem, z0, z1, z2, z3]) rfl ?_
              have HI' : IntsR WE (fun z => w.heap.size ≤ z ∧ z < WE.heap.size) (q ++ [(kk : Int)]) (.slice A' (q.length + 1) c') := HRC5.out.ints.keep (fun p hp => HRO.out p (Nat.ne_of_gt (Nat.lt_of_lt_of_le HG2.out hp.1))) (fun z hz => ⟨Nat.le_of_lt (Nat.lt_of_lt_of_le (Nat.lt_of_le_of_lt (Nat.le_add_right _ 2) HG2.out) hz.1), by rw [HRZ.out]; exact hz.2.1⟩)
              exact ⟨HB'.out, .inr ⟨_, _, HP3.out, rfl, HI'⟩⟩
end Go.Proofs.YtmahiejfniaahaaGreatDoor
