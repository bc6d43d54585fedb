/- Texts put together: CRow, CPl, CarS. -/
import Derived.Test.YtmahiejfniaahaaGreatDoorGI
import Derived.Test.YtmahiejfniaahaaGreatDoorHC
import Derived.Test.YtmahiejfniaahaaGreatDoorGR
import Derived.Test.YtmahiejfniaahaaGreatDoorGA
import Derived.Deep.RegionHeld3
import Derived.Deep.DeepCutAuto
import Derived.Test.YtmahiejfniaahaaGreatDoorGF
set_option linter.unusedVariables false
set_option linter.unusedSimpArgs false
set_option maxRecDepth 100000
namespace Go.Proofs.YtmahiejfniaahaaGreatDoor
open Go.RowKit
def CRowRes (w : World) (t' : Tree) (e : Ending) (w' : World) : Prop := ∃ A cap, e = .returned (.slice A t'.kids.length cap) ∧ ∃ n, w' = w.drewN n
set_option maxHeartbeats 2000000 in
theorem crow_any (t t0 : Tree) (p : List Int) (g0 o0 : Nat) (A : Option Addr) (cap : Nat) (rs : List Value) (b : Value) (w : World) (hn0 : NodeAt w (Lt w.heap.size) g0 o0 t A cap rs) (hp : IntsR w (Lt w.heap.size) p b) (hrow : rowS t p = some t0) :
    Calls Tryz.prog 77 #[.pointer (some ⟨g0, o0, none⟩), b] w (CRowRes w t0) := by
  have HN := hid hn0
  have HP := hid hp
  have HR0 := hid hrow
  obtain ⟨A', cap', rfl⟩ := hp.form
  clear hn0 hp hrow
  go_enter Tryz.func77, Tryz.ntmps77
  go_wp2_with fail
  go_loopw [0, 1] (fun r c wr => (∃ n, wr = w.drewN n) ∧ ∃ (p' : List Int) (t' : Tree) (g o : Nat) (A1 : Option Addr) (cap1 : Nat) (rs : List Value), r = .pointer (some ⟨g, o, none⟩) ∧ IntsR w (Lt w.heap.size) p' c ∧ NodeAt w (Lt w.heap.size) g o t' A1 cap1 rs ∧ rowS t' p' = some t0)
    (fun _ c _ => match c with | .slice _ n _ => n | _ => 0)
  case atStart => exact ⟨⟨0, rfl⟩, p, t, g0, o0, A, cap, rs, rfl, HP.out, HN.out, HR0.out⟩
  case round =>
    obtain ⟨⟨n, rfl⟩, p', t', g, o, A1, cap1, rs, rfl, hp', hn, hrest⟩ := hrel
    have HR := hid hrest
    have HP' := hid hp'
    obtain ⟨⟨c0, c1, c2, c3⟩, hg, htx, h4, h5, h6, h7⟩ := hn
    obtain ⟨A2, cap2, ws, rfl, h8, h9, h10, h11⟩ := hp'
    have hl1 : p'.length ≤ 9223372036854775807 := by unfold maxLen at h9; omega
    have hl2 : t'.kids.length ≤ 9223372036854775807 := by unfold maxLen at h5; omega
    have hgl : g < w.heap.size := hg
    clear hrest HN HP HR0
    match p', hl1, HR, HP', h8, h10, h11 with
    | [], hl1, HR, HP', h8, h10, h11 =>
      have HF : Hid (t' = t0) := by have h := HR.out; show _ = _; simpa [rowS] using h
      clear h10 h11 h6 h7
      go_wp2_with fail
      go_ret
      exact ⟨_, _, by rw [← HF.out]; rfl, _, by first | rfl | (simp only [World.drewN_drewN]; rfl)⟩
    | [i], hl1, HR, HP', h8, h10, h11 =>
      exfalso
      have h := HR.out
      simp [rowS] at h
    | i :: k :: q, hl1, HR, HP', h8, h10, h11 =>
      obtain ⟨g', o', rfl, hg', hi, a0⟩ := ints_at h10 h11 (k := 0) (by simp)
      obtain ⟨g2, o2, hq, hg2, hk, a1⟩ := ints_at h10 h11 (k := 1) (by simp)
      cases hq
      simp only [List.getElem_cons_zero, List.getElem_cons_succ, Nat.add_zero] at a0 a1 hi hk
      obtain ⟨A3, hsl, hcut⟩ := cut_l intE Tryz.underlying26 size_int (some ⟨g', o', none⟩) (i :: k :: q).length cap2 2 2 rfl (by simp)
      have HCU := hid (hcut _ _ _ HP'.out)
      simp only [List.drop_succ_cons, List.drop_zero] at HCU
      have i3 : (2 : Int) ≤ ((i :: k :: q).length : Int) := by simp; omega
      have hlen2 : (i :: k :: q).length - 2 = q.length := by simp
      have hpq : Hid (q.length < (i :: k :: q).length) := by show _ < _; simp; omega
      rw [hlen2] at hsl HCU
      have m0 : (0 : Int) < ((i :: k :: q).length : Int) := by simp; omega
      have m2 : 0 < (i :: k :: q).length := by simp
      have m1 : 1 < (i :: k :: q).length := by simp
      have m3 : (1 : Int) < ((i :: k :: q).length : Int) := by simp; omega
      clear hcut hlen2 h10 h11
      generalize (i :: k :: q).length = m at *
      have hps := HR.out
      rw [rowS] at hps
      clear HR
      split at hps
      · rename_i hx
        obtain ⟨hx1, hx2⟩ := hx
        obtain ⟨i', rfl⟩ : ∃ i' : Nat, i = i' := ⟨i.toNat, by omega⟩
        simp only [Int.toNat_natCast] at hx2 hps
        obtain ⟨gk, ok, B1, b1, bs1, rfl, hg1, t0', t1, t2, t3, _, _, hts, hc5, hc6, hrd, hls⟩ := trees_at h6 h7 hx2
        have j0 : decide ((i' : Int) < 0) = false := by simp
        have j1 : ¬ (i' : Int) < 0 := by omega
        have j2 : decide ((t'.kids.length : Int) ≤ i') = false := by simp; omega
        have j3 : (i' : Int) < (t'.kids.length : Int) := by omega
        have hg1l : gk < w.heap.size := hg1
        have hl3 : t'.kids[i'].kids.length ≤ 9223372036854775807 := by unfold maxLen at hc6; omega
        split at hps
        · rename_i hy
          obtain ⟨hy1, hy2⟩ := hy
          obtain ⟨k', rfl⟩ : ∃ k' : Nat, k = k' := ⟨k.toNat, by omega⟩
          simp only [Int.toNat_natCast] at hy2 hps
          obtain ⟨gl, ol, B2, b2, bs2, rfl, hg2', s0, s1, s2, s3, _, _, hts2, hd5, hd6, hrd2, hls2⟩ := trees_at hrd hls hy2
          have j4 : decide ((k' : Int) < 0) = false := by simp
          have j5 : ¬ (k' : Int) < 0 := by omega
          have j6 : decide ((t'.kids[i'].kids.length : Int) ≤ k') = false := by simp; omega
          have j7 : (k' : Int) < (t'.kids[i'].kids.length : Int) := by omega
          have HF := hid hps
          have HN2 : Hid (NodeAt w (Lt w.heap.size) gl (ol + k' * 4) t'.kids[i'].kids[k'] B2 b2 bs2) := ⟨⟨s0, s1, s2, s3⟩, hg2', hts2, hd5, hd6, hrd2, hls2⟩
          clear hrd hls hrd2 hls2 h6 h7 hps hd5 hd6 hc5 hc6
          go_wp2_with fail
          go_quiet (fail)
          go_wp2_with fail
          go_roundw
          case rel => exact ⟨by first | exact ⟨_, rfl⟩ | (simp only [World.drewN_drewN]; exact ⟨_, rfl⟩), q, _, _, _, _, _, _, rfl, HCU.out, HN2.out, HF.out⟩
          case measure => exact hpq.out
        · cases hps
      · cases hps
end Go.Proofs.YtmahiejfniaahaaGreatDoor
set_option linter.unusedVariables false
set_option linter.unusedSimpArgs false
set_option maxRecDepth 100000
namespace Go.Proofs.YtmahiejfniaahaaGreatDoor
open Go.RowKit
def PlcRes (w : World) (r : Option CarD) (e : Ending) (w' : World) : Prop :=
  Below w.heap.size w w' ∧ ((r = none ∧ e = .returned (.tuple #[.agg #[.slice none 0 0, .int .i64 0, .int .i64 0, .int .i64 0], .bool false])) ∨
    ∃ d v, r = some d ∧ e = .returned (.tuple #[.agg #[v, .int .i64 d.x, .int .i64 d.top, .int .i64 d.bottom], .bool true]) ∧ IntsR w' (fun k => w.heap.size ≤ k ∧ k < w'.heap.size) d.pos v)
theorem TabOk.at {w w' : World} (h : TabOk w) (hb : Below w.heap.size w w') : TabOk w' := h.below hb
set_option maxHeartbeats 4000000 in
theorem place_any (t t0 : Tree) (b : Bx) (q : List Int) (x : Int) (gn bm n cp cap : Nat) (A Ap : Option Addr) (rs : List Value) (S : Nat → Prop) (w : World)
    (hn : NodeAt w (Lt w.heap.size) gn 0 t A cap rs) (hF : FoundM w S bm n (rowsB b 0 0)) (hS : ∀ k, S k → k < w.heap.size) (hv : validB b = true)
    (hp : IntsR w (Lt w.heap.size) (q ++ [x]) (.slice Ap (q.length + 1) cp)) (hr : rowS t q = some t0) (hx : 0 ≤ x ∧ x ≤ t0.kids.length) (hql : q.length ≤ 100000) (hq0 : ∀ y ∈ q, 0 ≤ y) (htk : t0.kids.length ≤ 1000000) (htab : TabOk w) :
    Calls Tryz.prog 39 #[.pointer (some ⟨gn, 0, none⟩), .map (some bm), .slice Ap (q.length + 1) cp] w (PlcRes w (placeS t b q x)) := by
  have hp' : IntsR w (Lt w.heap.size) (q ++ [x]) (.slice Ap (q ++ [x]).length cp) := by simpa using hp
  have hcp : q.length + 1 ≤ cp := by obtain ⟨_, _, _, hq, h1, _⟩ := hp'; cases hq; simpa using h1
  obtain ⟨A1, hsl, hcut⟩ := cut_h intE Tryz.underlying26 size_int Ap (q.length + 1) cp (q.length : Int) q.length rfl (by omega) hcp
  have hq1 := hcut _ _ _ hp
  rw [List.take_left' rfl] at hq1
  have hin : ∀ y ∈ q, In64 y := fun y hy => by
    obtain ⟨_, _, is, _, _, _, _, hi⟩ := hp
    exact (listR_int.1 hi).2 y (by simp [hy])
  obtain ⟨gp, op, hAp, hgp, hcx⟩ : ∃ gp op, Ap = some ⟨gp, op, none⟩ ∧ gp < w.heap.size ∧ w.cell? ⟨gp, op + q.length, none⟩ = some (.int .i64 x) := by
    obtain ⟨_, _, is, hq, _, _, hrd, hi⟩ := hp'
    cases hq
    obtain ⟨g, o, e, h1, h2, h3⟩ := ints_at hrd hi (k := q.length) (by simp)
    exact ⟨g, o, e, h1, by simpa using h3⟩
  subst hAp
  obtain ⟨hpb, hcb, _⟩ := valid_parts hv
  obtain ⟨W0, hW0⟩ : ∃ W0, w.alloc (.cells #[.slice none 0 0, .int .i64 0, .int .i64 0, .int .i64 0] 32) = W0 := ⟨_, rfl⟩
  have hb0 : Below w.heap.size w W0 := by rw [← hW0]; exact bNew _ _
  have hz0 : w.heap.size < W0.heap.size := by rw [← hW0]; simp
  have hrc : ∀ W, Below W0.heap.size W0 W → BoxL W w.heap.size 0 [.slice none 0 0, .int .i64 0, .int .i64 0, .int .i64 0] ∧ FreeB W w.heap.size ∧ Below w.heap.size w W := fun W hW => by
    have h1 : BoxL W0 w.heap.size 0 [.slice none 0 0, .int .i64 0, .int .i64 0, .int .i64 0] := by rw [← hW0]; exact BoxL.new _ _ _ _ rfl _ rfl
    have h2 : FreeB W0 w.heap.size := by rw [← hW0]; exact FreeB.new _ _ _ _ rfl
    exact ⟨h1.below hW hz0, h2.below hW hz0, hb0.trans (hW.mono hb0.size)⟩
  have HRC := hid hrc
  have CR : Hid (Calls Tryz.prog 77 #[.pointer (some ⟨gn, 0, none⟩), .slice A1 q.length cp] W0 (CRowRes W0 t0)) := by
    have h1 : NodeAt W0 (Lt w.heap.size) gn 0 t A cap rs := hn.below hb0
    refine crow_any t t0 q gn 0 A cap rs _ W0 ?_ (hq1.below hb0 hb0.size) hr
    obtain ⟨a1, a2, a3, a4, a5, a6, a7⟩ := h1
    exact ⟨a1, Nat.lt_of_lt_of_le a2 hb0.size, a3, a4, a5, a6.keep (fun _ _ => rfl) (fun k hk => Nat.lt_of_lt_of_le hk hb0.size), a7.keep (fun _ _ => rfl) (fun k hk => Nat.lt_of_lt_of_le hk hb0.size)⟩
  have CK : Hid (∀ W, Below w.heap.size w W → Calls Tryz.prog 78 #[.slice A1 q.length cp] W fun e w' => e = .returned (.string ⟨(keyS q).toArray⟩) ∧ Below W.heap.size W w') := fun W hW =>
    key_any q A1 cp W (hq1.below hW hW.size) (by omega) hin (htab.below hW)
  have hkl : (keyS q).length ≤ maxLen := by have := keyS_len q hin; unfold maxLen; omega
  have HLK : Hid (∀ W, Below w.heap.size w W → match findB 1 q b with
        | none => (Instr.lookup 83 (.map (some bm)) (.string ⟨(keyS q).toArray⟩) true).run Tryz.prog W = .ok (.tuple #[.agg #[.pointer none, .int .i64 0, .int .i64 0, .int .i64 0], .bool false]) W
        | some f => ∃ g' o', BoxPl W S g' o' f.1 ∧ (Instr.lookup 83 (.map (some bm)) (.string ⟨(keyS q).toArray⟩) true).run Tryz.prog W = .ok (.tuple #[.agg #[.pointer (some ⟨g', o', none⟩), .int .i64 f.2.1, .int .i64 (f.2.2 + f.1.f.h), .int .i64 (f.2.2 - f.1.f.d)], .bool true]) W) := fun W hW => by
    have h := (hF.only hW hF.lt hS).look q hq0 hkl
    rw [rows_find] at h
    cases hf : findB 1 q b with
    | none => rw [hf] at h; exact h
    | some f => rw [hf] at h; simpa [shiftB, lineV] using h
  have HPL : Hid (placeS t b q x = match findB 1 q b with | none => none | some f => if f.1.kids.length = t0.kids.length then some ⟨q ++ [x], atS f.1 f.2.1 x.toNat, f.2.2 + f.1.f.h, f.2.2 - f.1.f.d⟩ else none) := by
    show _ = _
    rw [placeS, hr]
    cases findB 1 q b <;> rfl
  have HCL : Hid (∀ W, Below w.heap.size w W → Calls Tryz.prog 79 #[.slice (some ⟨gp, op, none⟩) (q.length + 1) cp] W (OwnPost W (q ++ [x]))) := fun W hW => clone_any (q ++ [x]) W _ (hp.below hW hW.size) (by simp; omega)
  generalize hres : placeS t b q x = res at *
  cases hfd : findB 1 q b with
  | none =>
    rw [hfd] at HLK HPL
    generalize hkk : (⟨(keyS q).toArray⟩ : ByteArray) = key at *
    clear hn hF hS hv hp hr hx hq0 htab hp' hq1 hin hcx hpb hcb hb0 hrc hkl hcut hres hfd hkk HCL
    go_enter Tryz.func39, Tryz.ntmps39
    go_wp2_with fail
    clear hW0
    refine CR.out.mono ?_
    rintro e w1 ⟨A4, c4, rfl, n1, rfl⟩
    go_wp2_with fail
    refine (CK.out _ (bDn (HRC.out W0 (Below.refl _ _)).2.2 _)).mono ?_
    rintro e w2 ⟨rfl, hb2⟩
    have HB2 := hid (bDrN hb2)
    clear hb2
    have hlk := HLK.out w2 (HRC.out w2 HB2.out).2.2
    go_upto_region 4 with fail
    obtain ⟨W3, hW3⟩ : ∃ W3, w2.alloc (.cells #[.pointer none, .int .i64 0, .int .i64 0, .int .i64 0] 115) = W3 := ⟨_, rfl⟩
    have hb3 : Below W0.heap.size W0 W3 := by rw [← hW3]; exact bAl HB2.out _
    obtain ⟨hr3, hf3, hbw3⟩ := HRC.out W3 hb3
    have HR3 := hid hr3
    have HBW3 := hid hbw3
    have m0 := hr3 0 _ rfl
    have m1 := hr3 1 _ rfl
    have m2 := hr3 2 _ rfl
    have m3 := hr3 3 _ rfl
    have f0 := hf3 0
    have f1 := hf3 1
    have f2 := hf3 2
    have f3 := hf3 3
    simp only [Nat.zero_add] at m0 m1 m2 m3
    rw [hW3]
    clear hr3 hf3 hbw3 hb3 hW3 hlk
    go_wp2_with fail
    generalize hW : (((W3.setCell _ (.slice none 0 0)).setCell _ (.int .i64 0)).setCell _ (.int .i64 0)).setCell _ (.int .i64 0) = W
    obtain ⟨⟨r0, r1, r2, r3⟩, rz, rb, ro, _⟩ := four m0 m1 m2 m3 _ _ _ _ hW.symm
    have HB' := hid (rb w.heap.size w (by omega) HBW3.out)
    clear hW ro rb
    refine bodyPost_ret (v := .tuple #[.agg #[.slice none 0 0, .int .i64 0, .int .i64 0, .int .i64 0], .bool false]) (by simp [results, Tryz.results39, go_sem, r0, r1, r2, r3]) rfl ?_
    exact ⟨HB'.out, .inl ⟨HPL.out, rfl⟩⟩
  | some f =>
    rw [hfd] at HLK HPL
    obtain ⟨hfp, hfs, hfc, hfx, hfy⟩ := find_bd 1 q b hpb f hfd
    have HKB := hid (kids_small hfp)
    have HFX : Hid (-1152921504606846976 ≤ f.2.1 ∧ f.2.1 ≤ 1152921504606846976) := by show _ ∧ _; omega
    generalize hkk : (⟨(keyS q).toArray⟩ : ByteArray) = key at *
    obtain ⟨bf, lx, ly⟩ := f
    simp only at HLK HPL HKB HFX
    generalize ly + bf.f.h = lt at *
    generalize ly - bf.f.d = lb at *
    have HSS := hid hS
    have hbml := hF.lt
    by_cases hlen : bf.kids.length = t0.kids.length
    · have HX := hid hx
      have HXN : Hid (x = (x.toNat : Nat)) := by show _ = _; omega
      have HP2 : Hid (res = some ⟨q ++ [x], atS bf lx x.toNat, lt, lb⟩) := by show _ = _; rw [HPL.out, if_pos hlen]
      have HLEN := hid hlen
      have htk0 : t0.kids.length ≤ 9223372036854775807 := by omega
      generalize hat : atS bf lx x.toNat = atx at *
      have hq5 : (q.length : Int) < ((q.length : Int) + 1) := by omega
      clear hn hF hS hv hp hr hx hq0 htab hp' hq1 hin hpb hcb hb0 hrc hkl hcut hres hfd hkk hfp hfs hfc hfx hfy hlen
      go_enter Tryz.func39, Tryz.ntmps39
      go_wp2_with fail
      clear hW0
      refine CR.out.mono ?_
      rintro e w1 ⟨A4, c4, rfl, n1, rfl⟩
      go_wp2_with fail
      refine (CK.out _ (bDn (HRC.out W0 (Below.refl _ _)).2.2 _)).mono ?_
      rintro e w2 ⟨rfl, hb2⟩
      have HB2 := hid (bDrN hb2)
      clear hb2
      obtain ⟨g', o', hbp, hlk⟩ := HLK.out w2 (HRC.out w2 HB2.out).2.2
      have HBP := hid hbp
      clear hbp
      go_upto_region 4 with fail
      obtain ⟨W3, hW3⟩ : ∃ W3, w2.alloc (.cells #[.pointer (some ⟨g', o', none⟩), .int .i64 lx, .int .i64 lt, .int .i64 lb] 115) = W3 := ⟨_, rfl⟩
      have hb3 : Below W0.heap.size W0 W3 := by rw [← hW3]; exact bAl HB2.out _
      obtain ⟨hr3, hf3, hbw3⟩ := HRC.out W3 hb3
      have HR3 := hid hr3
      have HBW3 := hid hbw3
      have m0 := hr3 0 _ rfl
      have m1 := hr3 1 _ rfl
      have m2 := hr3 2 _ rfl
      have m3 := hr3 3 _ rfl
      have f0 := hf3 0
      have f1 := hf3 1
      have f2 := hf3 2
      have f3 := hf3 3
      simp only [Nat.zero_add] at m0 m1 m2 m3
      have hb23 : Below w2.heap.size w2 W3 := by rw [← hW3]; exact bNew _ _
      have hl3 : BoxL W3 w2.heap.size 0 [.pointer (some ⟨g', o', none⟩), .int .i64 lx, .int .i64 lt, .int .i64 lb] ∧ w2.heap.size < W3.heap.size := by rw [← hW3]; exact ⟨BoxL.new _ _ _ _ rfl _ rfl, by simp⟩
      have HL3 := hid hl3
      rw [hW3]
      obtain ⟨hg', hok', Ak, ck, vs, h11, hsr, hks⟩ := HBP.out
      have hg'w := HSS.out _ hg'
      have hc8 := (hb23.cell (p := ⟨g', o' + 8, none⟩) (Nat.lt_of_lt_of_le hg'w (HRC.out w2 HB2.out).2.2.size)).trans h11.c8
      rw [HLEN.out] at hc8
      have hxc := (HBW3.out.cell (p := ⟨gp, op + q.length, none⟩) hgp).trans hcx
      have HB3 := hid hb3
      have HG' := hid hg'w
      have l0 := hl3.1 0 _ rfl
      have l1 := hl3.1 1 _ rfl
      have l2 := hl3.1 2 _ rfl
      have l3 := hl3.1 3 _ rfl
      simp only [Nat.zero_add] at l0 l1 l2 l3
      have HAT : Hid (∀ W, Below W3.heap.size W3 W → Calls Tryz.prog 80 #[.agg #[.pointer (some ⟨g', o', none⟩), .int .i64 lx, .int .i64 lt, .int .i64 lb], .int .i64 x, .int .i64 t0.kids.length] W (AtRes W atx)) := fun W hW => by
        have hbw : Below w2.heap.size w2 W := hb23.trans (hW.mono hb23.size)
        have hbw2 : Below w.heap.size w W := HBW3.out.trans (hW.mono HBW3.out.size)
        have := HX.out
        rw [← hat]
        exact at_any bf g' o' lx lt lb x (t0.kids.length : Int) x.toNat HXN.out (by rw [HLEN.out]) (by have := HLEN.out; omega) W S (HBP.out.keep (fun p hp => hbw.cell (Nat.lt_of_lt_of_le (HSS.out _ hp) (HRC.out w2 HB2.out).2.2.size)) (fun _ h => h)) (fun k hk => Nat.lt_of_lt_of_le (HSS.out k hk) hbw2.size) HKB.out HFX.out
      have HFR : Hid (∀ W, Below W3.heap.size W3 W → ((W.cell? ⟨w.heap.size, 0, none⟩ = some (.slice none 0 0) ∧ W.cell? ⟨w.heap.size, 1, none⟩ = some (.int .i64 0) ∧ W.cell? ⟨w.heap.size, 2, none⟩ = some (.int .i64 0) ∧ W.cell? ⟨w.heap.size, 3, none⟩ = some (.int .i64 0)) ∧
          (W.cell? ⟨w2.heap.size, 0, none⟩ = some (.pointer (some ⟨g', o', none⟩)) ∧ W.cell? ⟨w2.heap.size, 1, none⟩ = some (.int .i64 lx) ∧ W.cell? ⟨w2.heap.size, 2, none⟩ = some (.int .i64 lt) ∧ W.cell? ⟨w2.heap.size, 3, none⟩ = some (.int .i64 lb)) ∧
          W.cell? ⟨gp, op + q.length, none⟩ = some (.int .i64 x)) ∧ Below w.heap.size w W ∧ FreeB W w.heap.size) := fun W hW => by
        obtain ⟨a1, a2, a3⟩ := HRC.out W (bCl HB3.out hW)
        have a4 := HL3.out.1.below hW HL3.out.2
        have n0 := a1 0 _ rfl
        have n1 := a1 1 _ rfl
        have n2 := a1 2 _ rfl
        have n3 := a1 3 _ rfl
        have p0 := a4 0 _ rfl
        have p1 := a4 1 _ rfl
        have p2 := a4 2 _ rfl
        have p3 := a4 3 _ rfl
        simp only [Nat.zero_add] at n0 n1 n2 n3 p0 p1 p2 p3
        exact ⟨⟨⟨n0, n1, n2, n3⟩, ⟨p0, p1, p2, p3⟩, (a3.cell (p := ⟨gp, op + q.length, none⟩) hgp).trans hcx⟩, a3, a2⟩
      have HDR : Hid (Below W3.heap.size W3 W3.drew) := (Below.refl _ _).drew
      have HWL : Hid (w.heap.size < W3.heap.size) := Nat.lt_of_lt_of_le hz0 HB3.out.size
      clear hr3 hf3 hbw3 hb3 hW3 hlk hb23 hl3 hok' hsr hks hg' hg'w h11 hcx hbml
      have HD : Hid (Below w.heap.size w W3.drew) := HBW3.out.drew
      have HQX : Hid ((q ++ [x]).length = q.length + 1) := by show _ = _; simp
      have ne1 : ¬ (w2.heap.size = w.heap.size) := Nat.ne_of_gt (Nat.lt_of_lt_of_le hz0 HB2.out.size)
      have ne2 : ¬ (w.heap.size = w2.heap.size) := Nat.ne_of_lt (Nat.lt_of_lt_of_le hz0 HB2.out.size)
      have ne3 : ¬ (gp = w.heap.size) := Nat.ne_of_lt hgp
      have ne4 : ¬ (w.heap.size = gp) := Nat.ne_of_gt hgp
      go_wp2_with fail
      go_region_held3 (fun w' => w'.cell? ⟨w2.heap.size, 0, none⟩ = some (.pointer (some ⟨g', o', none⟩)) ∧ w'.cell? ⟨w2.heap.size, 1, none⟩ = some (.int .i64 lx) ∧ w'.cell? ⟨w2.heap.size, 2, none⟩ = some (.int .i64 lt) ∧ w'.cell? ⟨w2.heap.size, 3, none⟩ = some (.int .i64 lb) ∧ w'.cell? ⟨gp, op + q.length, none⟩ = some (.int .i64 x)) (go_keep) (first
        | (go_at_call 79; (with_reducible refine (HCL.out _ HD.out).mono ?_); rintro e w5 ⟨v5, rfl, ho5, hb5⟩; have hi5 := ho5.ints (S := fun k => W3.heap.size ≤ k ∧ k < w5.heap.size) (fun k h1 h2 => ⟨h1, h2⟩); obtain ⟨A5, c5, rfl⟩ := hi5.form; rw [HQX.out] at hi5; have HI5 := hid hi5; have HB5 : Hid (Below W3.heap.size W3 w5) := bDr hb5; clear ho5 hb5 hi5; obtain ⟨⟨⟨m0, m1, m2, m3⟩, ⟨l0, l1, l2, l3⟩, hxc⟩, _, hfz⟩ := HFR.out w5 HB5.out; have f0 := hfz 0; have f1 := hfz 1; have f2 := hfz 2; have f3 := hfz 3; clear hfz)
        | (go_at_call 80; (with_reducible refine (HAT.out _ HDR.out).mono ?_); rintro e w5 ⟨rfl, hb5⟩; have HB5 : Hid (Below W3.heap.size W3 w5) := bDr hb5; clear hb5; obtain ⟨⟨⟨m0, m1, m2, m3⟩, ⟨l0, l1, l2, l3⟩, hxc⟩, _, hfz⟩ := HFR.out w5 HB5.out; have f0 := hfz 0; have f1 := hfz 1; have f2 := hfz 2; have f3 := hfz 3; clear hfz)
        | (go_at_call 80; (with_reducible refine (HAT.out w5 HB5.out).mono ?_); rintro e w6 ⟨rfl, hb6⟩; have HB6 := hid (bCl HB5.out hb6); have HI6 : Hid (IntsR w6 (fun k => W3.heap.size ≤ k ∧ k < w6.heap.size) (q ++ [x]) (.slice A5 (q.length + 1) c5)) := HI5.out.keep (fun p hp => hb6.cell hp.2) (fun k hk => ⟨hk.1, Nat.lt_of_lt_of_le hk.2 hb6.size⟩); clear hb6; obtain ⟨⟨⟨m0, m1, m2, m3⟩, ⟨l0, l1, l2, l3⟩, hxc⟩, _, hfz⟩ := HFR.out w6 HB6.out; have f0 := hfz 0; have f1 := hfz 1; have f2 := hfz 2; have f3 := hfz 3; clear hfz)
        | (go_at_call 79; (with_reducible refine (HCL.out w5 (HFR.out w5 HB5.out).2.1).mono ?_); rintro e w6 ⟨v5, rfl, ho5, hb6⟩; have hi5 := ho5.ints (S := fun k => W3.heap.size ≤ k ∧ k < w6.heap.size) (fun k h1 h2 => ⟨Nat.le_trans HB5.out.size h1, h2⟩); obtain ⟨A5, c5, rfl⟩ := hi5.form; rw [HQX.out] at hi5; have HI6 := hid hi5; have HB6 := hid (bCl HB5.out hb6); clear ho5 hb6 hi5; obtain ⟨⟨⟨m0, m1, m2, m3⟩, ⟨l0, l1, l2, l3⟩, hxc⟩, _, hfz⟩ := HFR.out w6 HB6.out; have f0 := hfz 0; have f1 := hfz 1; have f2 := hfz 2; have f3 := hfz 3; clear hfz))
      all_goals
        go_wp2_with fail
        generalize hW : (((w6.setCell _ (.slice A5 (q.length + 1) c5)).setCell _ (.int .i64 atx)).setCell _ (.int .i64 lt)).setCell _ (.int .i64 lb) = W
        obtain ⟨⟨r0, r1, r2, r3⟩, rz, rb, ro, _⟩ := four m0 m1 m2 m3 _ _ _ _ hW.symm
        have HB' := hid (rb w.heap.size w (by omega) (HFR.out w6 HB6.out).2.1)
        have HI' : Hid (IntsR W (fun k => w.heap.size ≤ k ∧ k < W.heap.size) (q ++ [x]) (.slice A5 (q.length + 1) c5)) := HI6.out.keep (fun p hp => ro p (Nat.ne_of_gt (Nat.lt_of_lt_of_le HWL.out hp.1))) (fun k hk => ⟨Nat.le_of_lt (Nat.lt_of_lt_of_le HWL.out hk.1), by rw [rz]; exact hk.2⟩)
        clear hW ro rb
        refine bodyPost_ret (v := .tuple #[.agg #[.slice A5 (q.length + 1) c5, .int .i64 atx, .int .i64 lt, .int .i64 lb], .bool true]) (by simp [results, Tryz.results39, go_sem, r0, r1, r2, r3]) rfl ?_
        exact ⟨HB'.out, .inr ⟨_, _, HP2.out, rfl, HI'.out⟩⟩
    · have HP2 : Hid (res = none) := by show _ = _; rw [HPL.out, if_neg hlen]
      have e1 : ¬ ((bf.kids.length : Int) = (t0.kids.length : Int)) := by omega
      have e2 : ((bf.kids.length : Int) == (t0.kids.length : Int)) = false := by simp; omega
      have e3 : ((bf.kids.length : Int) != (t0.kids.length : Int)) = true := by simp; omega
      have e4 : (bf.kids.length == t0.kids.length) = false := by simp; omega
      clear hn hF hS hv hp hr hx hq0 htab hp' hq1 hin hcx hpb hcb hb0 hrc hkl hcut hres hfd hkk HCL hfp hfs hfc hfx hfy HKB HFX
      go_enter Tryz.func39, Tryz.ntmps39
      go_wp2_with fail
      clear hW0
      refine CR.out.mono ?_
      rintro e w1 ⟨A4, c4, rfl, n1, rfl⟩
      go_wp2_with fail
      refine (CK.out _ (bDn (HRC.out W0 (Below.refl _ _)).2.2 _)).mono ?_
      rintro e w2 ⟨rfl, hb2⟩
      have HB2 := hid (bDrN hb2)
      clear hb2
      obtain ⟨g', o', hbp, hlk⟩ := HLK.out w2 (HRC.out w2 HB2.out).2.2
      have HBP := hid hbp
      clear hbp
      go_upto_region 4 with fail
      obtain ⟨W3, hW3⟩ : ∃ W3, w2.alloc (.cells #[.pointer (some ⟨g', o', none⟩), .int .i64 lx, .int .i64 lt, .int .i64 lb] 115) = W3 := ⟨_, rfl⟩
      have hb3 : Below W0.heap.size W0 W3 := by rw [← hW3]; exact bAl HB2.out _
      obtain ⟨hr3, hf3, hbw3⟩ := HRC.out W3 hb3
      have HR3 := hid hr3
      have HBW3 := hid hbw3
      have m0 := hr3 0 _ rfl
      have m1 := hr3 1 _ rfl
      have m2 := hr3 2 _ rfl
      have m3 := hr3 3 _ rfl
      have f0 := hf3 0
      have f1 := hf3 1
      have f2 := hf3 2
      have f3 := hf3 3
      simp only [Nat.zero_add] at m0 m1 m2 m3
      have hb23 : Below w2.heap.size w2 W3 := by rw [← hW3]; exact bNew _ _
      have hl0 : W3.cell? ⟨w2.heap.size, 0, none⟩ = some (.pointer (some ⟨g', o', none⟩)) := by rw [← hW3]; exact cNew _ _ _ _ _ rfl
      rw [hW3]
      obtain ⟨hg', hok', Ak, ck, vs, h11, hsr, hks⟩ := HBP.out
      have hc8 := (hb23.cell (p := ⟨g', o' + 8, none⟩) (Nat.lt_of_lt_of_le (HSS.out _ hg') (HRC.out w2 HB2.out).2.2.size)).trans h11.c8
      clear hr3 hf3 hbw3 hb3 hW3 hlk hb23 h11 hsr hks hok'
      go_wp2_with fail
      generalize hW : (((W3.setCell _ (.slice none 0 0)).setCell _ (.int .i64 0)).setCell _ (.int .i64 0)).setCell _ (.int .i64 0) = W
      obtain ⟨⟨r0, r1, r2, r3⟩, rz, rb, ro, _⟩ := four m0 m1 m2 m3 _ _ _ _ hW.symm
      have HB' := hid (rb w.heap.size w (by omega) HBW3.out)
      clear hW ro rb
      refine bodyPost_ret (v := .tuple #[.agg #[.slice none 0 0, .int .i64 0, .int .i64 0, .int .i64 0], .bool false]) (by simp [results, Tryz.results39, go_sem, r0, r1, r2, r3]) rfl ?_
      exact ⟨HB'.out, .inl ⟨HP2.out, rfl⟩⟩
end Go.Proofs.YtmahiejfniaahaaGreatDoor
set_option linter.unusedVariables false
set_option linter.unusedSimpArgs false
set_option maxRecDepth 100000
namespace Go.Proofs.YtmahiejfniaahaaGreatDoor
open Go.RowKit
structure Laid2 (W : World) (B g : Nat) (t : Tree) (b : Bx) (A Ak As : Option Addr) (cap ck cs : Nat) : Prop where
  node : BoxL W g 0 [.int .i64 t.kind, .string t.text, .int .i64 t.cols, .slice A t.kids.length cap]
  box : BoxL W (g + 1) 0 (boxL b.f (.slice Ak b.kids.length ck) (.slice As b.f.src.length cs))
  kids : SliceR treeE W (Lt B) t.kids (.slice A t.kids.length cap)
  bin : BoxIn W b Ak As ck cs
theorem Laid2.boxPl {W : World} {B g : Nat} {t : Tree} {b : Bx} {A Ak As : Option Addr} {cap ck cs : Nat} (h : Laid2 W B g t b A Ak As cap ck cs) (hg : g + 1 < W.heap.size) : BoxPl W (Lt W.heap.size) (g + 1) 0 b := by
  have hb := h.box
  refine ⟨hg, h.bin.ok, Ak, ck, _, ⟨?_, ?_, ?_, ?_, ?_, ?_, ?_, ?_, ?_, ?_, ?_⟩, h.bin.src, h.bin.kids⟩
  · simpa using hb 0 _ rfl
  · simpa using hb 1 _ rfl
  · simpa using hb 2 _ rfl
  · simpa using hb 3 _ rfl
  · simpa using hb 4 _ rfl
  · simpa using hb 5 _ rfl
  · simpa using hb 6 _ rfl
  · simpa using hb 7 _ rfl
  · simpa using hb 8 _ rfl
  · simpa using hb 9 _ rfl
  · simpa using hb 10 _ rfl
theorem Laid2.nodeAt {W : World} {B g : Nat} {t : Tree} {b : Bx} {A Ak As : Option Addr} {cap ck cs : Nat} (h : Laid2 W B g t b A Ak As cap ck cs) (hg : g < W.heap.size) (hB : B ≤ W.heap.size) (htx : t.text.size ≤ maxLen) : ∃ rs, NodeAt W (Lt W.heap.size) g 0 t A cap rs := by
  obtain ⟨_, _, rs, hq, h1, h2, h3, h4⟩ := h.kids
  cases hq
  have hn := h.node
  refine ⟨rs, ⟨by simpa using hn 0 _ rfl, by simpa using hn 1 _ rfl, by simpa using hn 2 _ rfl, by simpa using hn 3 _ rfl⟩, hg, htx, h1, h2, h3.keep (fun _ _ => rfl) (fun k hk => Nat.lt_of_lt_of_le hk hB), h4.keep (fun _ _ => rfl) (fun k hk => Nat.lt_of_lt_of_le hk hB)⟩
theorem Laid2.below {W W' : World} {B g : Nat} {t : Tree} {b : Bx} {A Ak As : Option Addr} {cap ck cs : Nat} (h : Laid2 W B g t b A Ak As cap ck cs) (hb : Below W.heap.size W W') (hg : g + 1 < W.heap.size) (hB : B ≤ W.heap.size) : Laid2 W' B g t b A Ak As cap ck cs :=
  ⟨h.node.below hb (by omega), h.box.below hb hg, h.kids.keep (fun p hp => hb.cell (Nat.lt_of_lt_of_le hp hB)) (fun _ h => h), h.bin.below hb⟩
theorem Laid2.new (w : World) (t : Tree) (b : Bx) (A Ak As : Option Addr) (cap ck cs : Nat) (T1 T2 : TypeId) (hv : SliceR treeE w (Lt w.heap.size) t.kids (.slice A t.kids.length cap)) (hb : BoxIn w b Ak As ck cs) :
    Laid2 ((w.alloc (.cells #[.int .i64 t.kind, .string t.text, .int .i64 t.cols, .slice A t.kids.length cap] T1)).alloc (.cells (boxC b.f (.slice Ak b.kids.length ck) (.slice As b.f.src.length cs)) T2)) w.heap.size w.heap.size t b A Ak As cap ck cs := by
  have h1 := bNew w (.cells #[.int .i64 t.kind, .string t.text, .int .i64 t.cols, .slice A t.kids.length cap] T1)
  have h2 := bAl h1 (.cells (boxC b.f (.slice Ak b.kids.length ck) (.slice As b.f.src.length cs)) T2)
  refine ⟨?_, BoxL.new _ _ _ _ (by simp) _ rfl, hv.keep (fun p hp => h2.cell hp) (fun _ h => h), hb.below h2⟩
  exact (BoxL.new w _ T1 _ rfl _ rfl).below (bNew _ _) (by simp)
theorem row_cnt : (t : Tree) → (p : List Int) → (t' : Tree) → rowS t p = some t' → countS t' ≤ countS t
  | t, [], t', h => by
    simp [rowS] at h
    subst h
    exact Nat.le_refl _
  | t, [_], t', h => by simp [rowS] at h
  | t, i :: k :: p, t', h => by
    rw [rowS] at h
    split at h
    · rename_i hi
      split at h
      · rename_i hk
        have h1 := row_cnt _ p t' h
        have h2 := countS_kid hi.2
        have h3 := countS_kid hk.2
        omega
      · cases h
    · cases h
theorem place_of (t : Tree) (b : Bx) (p : List Int) (gn bm n cp cap : Nat) (A Ap : Option Addr) (rs : List Value) (S : Nat → Prop) (w : World)
    (hn : NodeAt w (Lt w.heap.size) gn 0 t A cap rs) (hF : FoundM w S bm n (rowsB b 0 0)) (hS : ∀ k, S k → k < w.heap.size) (hvt : validS t = true) (hv : validB b = true)
    (hp : IntsR w (Lt w.heap.size) p (.slice Ap p.length cp)) (hpi : posIn t p = true) (htab : TabOk w) :
    Calls Tryz.prog 39 #[.pointer (some ⟨gn, 0, none⟩), .map (some bm), .slice Ap p.length cp] w (PlcRes w (placeP t b p)) := by
  obtain ⟨q, x, rfl⟩ := posIn_ne hpi
  obtain ⟨t0, h1, h2, h3⟩ := posIn_row t q x hpi
  have hc := (valid_count hvt).1
  obtain ⟨b1, b2⟩ := posIn_bd t _ hpi
  have hd := depth_le_count t
  rw [placeP_snoc]
  have hkc := b2 x (by simp)
  have e : (q ++ [x]).length = q.length + 1 := by simp
  rw [e] at hp b1 ⊢
  refine place_any t t0 b q x gn bm n cp cap A Ap rs S w hn hF hS hv hp h1 ⟨h2, h3⟩ (by omega) (fun y hy => (b2 y (by simp [hy])).1) ?_ htab
  have hle := row_cnt t q t0 h1
  have := kids_le_count t0
  omega
end Go.Proofs.YtmahiejfniaahaaGreatDoor
