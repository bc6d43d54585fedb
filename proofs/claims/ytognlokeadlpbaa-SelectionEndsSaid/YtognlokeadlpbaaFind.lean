/- node.find. -/
import Derived.Test.YtognlokeadlpbaaIn
set_option linter.unusedVariables false
set_option linter.unusedSimpArgs false
set_option maxRecDepth 100000
namespace Go.Proofs.Ytognlokeadlpbaa
open Go.RowKit

/-- The row with a path. -/
def rowS : Tree → List Int → Option Tree
  | t, i :: k :: p =>
    if hi : 0 ≤ i ∧ i.toNat < t.kids.length then
      if hk : 0 ≤ k ∧ k.toNat < (t.kids[i.toNat]'hi.2).kids.length then rowS ((t.kids[i.toNat]'hi.2).kids[k.toNat]'hk.2) p else none
    else none
  | t, [] => some t
  | _, [_] => none

def FindP (w : World) (r : Option Tree) (e : Ending) (w' : World) : Prop :=
  (∃ n, w' = w.drewN n) ∧ ((r = none ∧ ∃ q, e = .returned (.tuple #[.pointer q, .bool false])) ∨ ∃ t' g o A cap rs, r = some t' ∧ e = .returned (.tuple #[.pointer (some ⟨g, o, none⟩), .bool true]) ∧ NodeAt w (Lt w.heap.size) g o t' A cap rs)

set_option maxHeartbeats 2000000 in
theorem nodeFind_any (t : Tree) (p : List Int) (g0 o0 : Nat) (A : Option Addr) (cap : Nat) (rs : List Value) (b : Value) (w : World) (hn0 : NodeAt w (Lt w.heap.size) g0 o0 t A cap rs) (hp : IntsR w (Lt w.heap.size) p b) :
    Calls Try.prog 78 #[.pointer (some ⟨g0, o0, none⟩), b] w (FindP w (rowS t p)) := by
  have HN := hid hn0
  have HP := hid hp
  obtain ⟨A', cap', rfl⟩ := hp.form
  clear hn0 hp
  go_enter Try.func78, Try.ntmps78
  go_wp2_with fail
  go_loopw [1, 0] (fun c r wr => (∃ n, wr = w.drewN n) ∧ ∃ (p' : List Int) (t' : Tree) (g o : Nat) (A1 : Option Addr) (cap1 : Nat) (rs : List Value), r = .pointer (some ⟨g, o, none⟩) ∧ IntsR w (Lt w.heap.size) p' c ∧ NodeAt w (Lt w.heap.size) g o t' A1 cap1 rs ∧ rowS t' p' = rowS t p)
    (fun c _ _ => match c with | .slice _ n _ => n | _ => 0)
  case atStart => exact ⟨⟨0, rfl⟩, p, t, g0, o0, A, cap, rs, rfl, HP.out, HN.out, rfl⟩
  case round =>
    obtain ⟨⟨n, rfl⟩, p', t', g, o, A1, cap1, rs, rfl, hp', hn, hrest⟩ := hrel
    have HR := hid hrest
    have HP' := hid hp'
    have HNN := hid hn
    obtain ⟨⟨c0, c1, c2, c3⟩, hg, htx, h4, h5, h6, h7⟩ := hn
    obtain ⟨A2, cap2, ws, rfl, h8, h9, h10, h11⟩ := hp'
    have hl1 : p'.length ≤ 9223372036854775807 := by unfold maxLen at h9; omega
    have hl2 : t'.kids.length ≤ 9223372036854775807 := by unfold maxLen at h5; omega
    have hgl : g < w.heap.size := hg
    clear hrest HN HP
    match p', hl1, HR, HP', h8, h10, h11 with
    | [], hl1, HR, HP', h8, h10, h11 =>
      have HF : Hid (rowS t p = some t') := by show _ = _; rw [← HR.out]; simp [rowS]
      clear h10 h11 h6 h7
      go_wp2_with fail
      refine bodyPost_ret (v := .tuple #[.pointer (some ⟨g, o, none⟩), .bool true]) (by simp [results, Try.results78, go_sem]) rfl ?_
      exact ⟨by first | exact ⟨_, rfl⟩ | (simp only [World.drewN_drewN]; exact ⟨_, rfl⟩), .inr ⟨_, _, _, _, _, _, HF.out, rfl, HNN.out⟩⟩
    | [i], hl1, HR, HP', h8, h10, h11 =>
      have HF : Hid (rowS t p = none) := by show _ = _; rw [← HR.out]; simp [rowS]
      clear h10 h11 h6 h7
      go_wp2_with fail
      refine bodyPost_ret (v := .tuple #[.pointer (some ⟨g, o, none⟩), .bool false]) (by simp [results, Try.results78, go_sem]) rfl ?_
      exact ⟨by first | exact ⟨_, rfl⟩ | (simp only [World.drewN_drewN]; exact ⟨_, rfl⟩), .inl ⟨HF.out, _, rfl⟩⟩
    | i :: k :: q, hl1, HR, HP', h8, h10, h11 =>
      obtain ⟨g', o', rfl, hg', hi, a0⟩ := ints_at h10 h11 (k := 0) (by simp)
      obtain ⟨g2, o2, hq, hg2, hk, a1⟩ := ints_at h10 h11 (k := 1) (by simp)
      cases hq
      simp only [List.getElem_cons_zero, List.getElem_cons_succ, Nat.add_zero] at a0 a1 hi hk
      obtain ⟨A3, hsl, hcut⟩ := cut_l intE Try.underlying25 size_int (some ⟨g', o', none⟩) (i :: k :: q).length cap2 2 2 rfl (by simp)
      have HCU := hid (hcut _ _ _ HP'.out)
      simp only [List.drop_succ_cons, List.drop_zero] at HCU
      have i3 : (2 : Int) ≤ ((i :: k :: q).length : Int) := by simp; omega
      have hlen2 : (i :: k :: q).length - 2 = q.length := by simp
      have hpq : Hid (q.length < (i :: k :: q).length) := by show _ < _; simp; omega
      rw [hlen2] at hsl HCU
      have m0 : (0 : Int) < ((i :: k :: q).length : Int) := by simp; omega
      have m2 : 0 < (i :: k :: q).length := by simp
      have m1 : 1 < (i :: k :: q).length := by simp
      have m3 : (1 : Int) < ((i :: k :: q).length : Int) := by simp; omega
      clear hcut hlen2 h10 h11
      generalize (i :: k :: q).length = m at *
      have HX : Hid (rowS t p = rowS t' (i :: k :: q)) := HR.out.symm
      have HPS := hid (show rowS t' (i :: k :: q) = _ by rw [rowS])
      clear HR
      by_cases hx : 0 ≤ i ∧ i.toNat < t'.kids.length
      · obtain ⟨hx1, hx2⟩ := hx
        obtain ⟨i', rfl⟩ : ∃ i' : Nat, i = i' := ⟨i.toNat, by omega⟩
        simp only [Int.toNat_natCast] at hx2
        obtain ⟨gk, ok, B1, b1, bs1, rfl, hg1, t0, t1, t2, t3, _, _, hts, hc5, hc6, hrd, hls⟩ := trees_at h6 h7 hx2
        have j0 : decide ((i' : Int) < 0) = false := by simp
        have j1 : ¬ (i' : Int) < 0 := by omega
        have j2 : decide ((t'.kids.length : Int) ≤ i') = false := by simp; omega
        have j3 : (i' : Int) < (t'.kids.length : Int) := by omega
        have hg1l : gk < w.heap.size := hg1
        have hl3 : t'.kids[i'].kids.length ≤ 9223372036854775807 := by unfold maxLen at hc6; omega
        by_cases hy : 0 ≤ k ∧ k.toNat < t'.kids[i'].kids.length
        · obtain ⟨hy1, hy2⟩ := hy
          obtain ⟨k', rfl⟩ : ∃ k' : Nat, k = k' := ⟨k.toNat, by omega⟩
          simp only [Int.toNat_natCast] at hy2
          obtain ⟨gl, ol, B2, b2, bs2, rfl, hg2', s0, s1, s2, s3, _, _, hts2, hd5, hd6, hrd2, hls2⟩ := trees_at hrd hls hy2
          have j4 : decide ((k' : Int) < 0) = false := by simp
          have j5 : ¬ (k' : Int) < 0 := by omega
          have j6 : decide ((t'.kids[i'].kids.length : Int) ≤ k') = false := by simp; omega
          have j7 : (k' : Int) < (t'.kids[i'].kids.length : Int) := by omega
          have HF : Hid (rowS t'.kids[i'].kids[k'] q = rowS t p) := by
            show _ = _
            rw [HX.out, rowS, dif_pos ⟨by omega, by simpa using hx2⟩, dif_pos ⟨by omega, by simpa using hy2⟩]; rfl
          have HN2 : Hid (NodeAt w (Lt w.heap.size) gl (ol + k' * 4) t'.kids[i'].kids[k'] B2 b2 bs2) := ⟨⟨s0, s1, s2, s3⟩, hg2', hts2, hd5, hd6, hrd2, hls2⟩
          clear hrd hls hrd2 hls2 h6 h7 HX HPS hd5 hd6 hc5 hc6
          go_wp2_with fail
          go_quiet (fail)
          go_wp2_with fail
          go_roundw
          case rel => exact ⟨by first | exact ⟨_, rfl⟩ | (simp only [World.drewN_drewN]; exact ⟨_, rfl⟩), q, _, _, _, _, _, _, rfl, HCU.out, HN2.out, HF.out⟩
          case measure => exact hpq.out
        · have HF : Hid (rowS t p = none) := by
            show _ = _
            rw [HX.out, rowS, dif_pos ⟨by omega, by simpa using hx2⟩, dif_neg (by simpa using hy)]
          have i2 : k < 0 ∨ (0 ≤ k ∧ (t'.kids[i'].kids.length : Int) ≤ k) := by omega
          clear hrd hls h6 h7 HX HPS hc5 hc6 hy
          rcases i2 with i2 | ⟨i2, i3⟩
          · have j4 : decide (k < 0) = true := decide_eq_true i2
            go_wp2_with fail
            go_quiet (fail)
            go_wp2_with fail
            refine bodyPost_ret (v := .tuple #[.pointer none, .bool false]) (by simp [results, Try.results78, go_sem]) rfl ?_
            exact ⟨by first | exact ⟨_, rfl⟩ | (simp only [World.drewN_drewN]; exact ⟨_, rfl⟩), .inl ⟨HF.out, _, rfl⟩⟩
          · have j4 : decide (k < 0) = false := by simp; omega
            have j5 : decide ((t'.kids[i'].kids.length : Int) ≤ k) = true := decide_eq_true i3
            go_wp2_with fail
            go_quiet (fail)
            go_wp2_with fail
            refine bodyPost_ret (v := .tuple #[.pointer none, .bool false]) (by simp [results, Try.results78, go_sem]) rfl ?_
            exact ⟨by first | exact ⟨_, rfl⟩ | (simp only [World.drewN_drewN]; exact ⟨_, rfl⟩), .inl ⟨HF.out, _, rfl⟩⟩
      · have HF : Hid (rowS t p = none) := by show _ = _; rw [HX.out, rowS, dif_neg hx]
        have i2 : i < 0 ∨ (0 ≤ i ∧ (t'.kids.length : Int) ≤ i) := by omega
        clear h6 h7 HX HPS hx
        rcases i2 with i2 | ⟨i2, i3⟩
        · have j4 : decide (i < 0) = true := decide_eq_true i2
          go_wp2_with fail
          go_quiet (fail)
          go_wp2_with fail
          refine bodyPost_ret (v := .tuple #[.pointer none, .bool false]) (by simp [results, Try.results78, go_sem]) rfl ?_
          exact ⟨by first | exact ⟨_, rfl⟩ | (simp only [World.drewN_drewN]; exact ⟨_, rfl⟩), .inl ⟨HF.out, _, rfl⟩⟩
        · have j4 : decide (i < 0) = false := by simp; omega
          have j5 : decide ((t'.kids.length : Int) ≤ i) = true := decide_eq_true i3
          go_wp2_with fail
          go_quiet (fail)
          go_wp2_with fail
          refine bodyPost_ret (v := .tuple #[.pointer none, .bool false]) (by simp [results, Try.results78, go_sem]) rfl ?_
          exact ⟨by first | exact ⟨_, rfl⟩ | (simp only [World.drewN_drewN]; exact ⟨_, rfl⟩), .inl ⟨HF.out, _, rfl⟩⟩
end Go.Proofs.Ytognlokeadlpbaa
