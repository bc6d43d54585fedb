/- box.valid, box.Valid. -/
import Derived.Test.YtbiloghgkmknbaaGreatDoorGA
import Derived.Test.YtbiloghgkmknbaaGreatDoorGR
import Derived.IntWalk
import Derived.Deep.DeepCutAuto
set_option linter.unusedVariables false
set_option linter.unusedSimpArgs false
set_option maxRecDepth 100000
namespace Go.Proofs.YtbiloghgkmknbaaGreatDoor
open Go.RowKit

theorem Bx.ind {P : Bx → Prop} (h : ∀ t : Bx, (∀ k ∈ t.kids, P k) → P t) : ∀ t, P t := by
  intro t
  have : ∀ (n : Nat) (t : Bx), SizeOf.sizeOf t ≤ n → P t := by
    intro n
    induction n with
    | zero => intro t ht; cases t; simp at ht
    | succ n ih =>
      intro t ht
      refine h t fun k hk => ih k ?_
      cases t with
      | mk a ts =>
        have := List.sizeOf_lt_of_mem (show k ∈ ts from hk)
        simp at ht; omega
  exact this _ t (Nat.le_refl _)

theorem goBs_drop {ks : List Bx} {k : Nat} (h : k < ks.length) (d c : Int) : goBs (ks.drop k) d c = if (goB ks[k] d c).1 = true then goBs (ks.drop (k + 1)) d (goB ks[k] d c).2 else (false, (goB ks[k] d c).2) := by
  rw [List.drop_eq_getElem_cons h, goBs]

/-- A box at an address, its kids and its path read below. -/
def BoxAt (w : World) (S : Nat → Prop) (g o : Nat) (b : Bx) (Ak As : Option Addr) (ck cs : Nat) : Prop :=
  Box11 w g o b.f (.slice Ak b.kids.length ck) (.slice As b.f.src.length cs) ∧ S g ∧ b.f.Ok ∧ IntsR w S b.f.src (.slice As b.f.src.length cs) ∧ BoxesS w S b.kids (.slice Ak b.kids.length ck)
theorem BoxAt.below {w w' : World} {B g o : Nat} {b : Bx} {Ak As : Option Addr} {ck cs : Nat} (h : BoxAt w (Lt B) g o b Ak As ck cs) (hb : Below B w w') : BoxAt w' (Lt B) g o b Ak As ck cs := by
  obtain ⟨h1, h2, h3, h4, h5⟩ := h
  exact ⟨h1.below hb h2, h2, h3, h4.below hb (Nat.le_refl _), h5.below hb (Nat.le_refl _)⟩
def CntPost (B q : Nat) (w : World) (r : Bool × Int) (e : Ending) (w' : World) : Prop :=
  e = .returned (.bool r.1) ∧ Below B w w' ∧ w'.cell? ⟨q, 0, none⟩ = some (.int .i64 r.2) ∧ w'.frozen? ⟨q, 0, none⟩ = false

theorem blDn {B : Nat} {a w : World} (h : Below B a w) (n : Nat) : Below B a (w.drewN n) := ⟨h.os, h.tape, h.output, h.size, h.block⟩

set_option maxHeartbeats 4000000 in
theorem bvalid_any (b : Bx) : ∀ (w : World) (B g o q : Nat) (Ak As : Option Addr) (ck cs : Nat) (d c : Int) (_ : BoxAt w (Lt B) g o b Ak As ck cs) (_ : B ≤ q) (_ : w.cell? ⟨q, 0, none⟩ = some (.int .i64 c)) (_ : w.frozen? ⟨q, 0, none⟩ = false) (_ : 0 ≤ c ∧ c ≤ 20000) (_ : 1 ≤ d ∧ d ≤ 101),
    Calls Tryz.prog 93 #[.pointer (some ⟨g, o, none⟩), .int .i64 d, .pointer (some ⟨q, 0, none⟩)] w (CntPost B q w (goB b d c)) := by
  induction b using Bx.ind with
  | h b ih =>
  obtain ⟨f, ks⟩ := b
  intro w B g o q Ak As ck cs d c hN hBq kq fq ⟨hc0, hc1⟩ ⟨hd0, hd1⟩
  have HNA := hid hN
  simp only [Bx.kids] at ih
  have hlen : ks.length ≤ 9223372036854775807 := by have := hN.2.2.2.2.lens; unfold maxLen at this; exact Nat.le_trans this (by omega)
  have HG : Hid (goB (.mk f ks) d c = if c + 1 > 20000 ∨ d > 100 ∨ ownB f ks.length = false then (false, c + 1) else goBs ks (d + 1) (c + 1)) := by show _ = _; rw [goB]
  obtain ⟨W1, hW1⟩ : ∃ W1, w.setCell ⟨q, 0, none⟩ (.int .i64 (c + 1)) = W1 := ⟨_, rfl⟩
  have hb1 : Below B w W1 := by rw [← hW1]; exact (Below.refl B w).setCell (p := ⟨q, 0, none⟩) hBq _
  have k1 : W1.cell? ⟨q, 0, none⟩ = some (.int .i64 (c + 1)) := by rw [← hW1]; exact World.cell?_setCell_same _ _ _ kq
  have f1 : W1.frozen? ⟨q, 0, none⟩ = false := by rw [← hW1, World.frozen?_setCell]; exact fq
  have HB1 := hid hb1
  have HO : Hid (Calls Tryz.prog 121 #[.pointer (some ⟨g, o, none⟩)] W1 fun e w' => e = .returned (.bool (ownB f ks.length)) ∧ ∃ k, w' = W1.drewN k) := by
    obtain ⟨a1, a2, a3, a4, a5⟩ := hN.below hb1
    exact bown_q g o f ks.length Ak As ck cs W1 (Lt B) a1 a4 a3.name hlen
  have HIH := hid ih
  clear hN ih hb1
  by_cases h1 : c + 1 > 20000
  · have d1 : decide (20000 < c + 1) = true := by simpa using h1
    have hF : goB (.mk f ks) d c = (false, c + 1) := by rw [HG.out, if_pos (.inl h1)]
    rw [hF]
    clear hF HG HO
    go_enter Tryz.func93, Tryz.ntmps93
    go_upto_region 2 with fail
    clear hW1 kq fq
    go_wp2_with fail
    go_ret
    exact ⟨rfl, HB1.out, k1, f1⟩
  have d1 : decide (20000 < c + 1) = false := by simpa using h1
  by_cases h2 : d > 100
  · have d2 : decide (100 < d) = true := by simpa using h2
    have hF : goB (.mk f ks) d c = (false, c + 1) := by rw [HG.out, if_pos (.inr (.inl h2))]
    rw [hF]
    clear hF HG HO
    go_enter Tryz.func93, Tryz.ntmps93
    go_upto_region 2 with fail
    clear hW1 kq fq
    go_wp2_with fail
    go_ret
    exact ⟨rfl, HB1.out, k1, f1⟩
  have d2 : decide (100 < d) = false := by simpa using h2
  cases hob : ownB f ks.length with
  | false =>
    have hF : goB (.mk f ks) d c = (false, c + 1) := by rw [HG.out, if_pos (.inr (.inr hob))]
    rw [hF]
    rw [hob] at HO
    clear hF HG hob
    go_enter Tryz.func93, Tryz.ntmps93
    go_upto_region 2 with fail
    clear hW1 kq fq
    go_wp2_with fail
    refine HO.out.mono ?_
    rintro e w1 ⟨rfl, n1, rfl⟩
    go_wp2_with fail
    go_ret
    exact ⟨rfl, blDn HB1.out n1, k1, f1⟩
  | true =>
  have hF : goB (.mk f ks) d c = goBs ks (d + 1) (c + 1) := by rw [HG.out, if_neg (by rw [hob]; simp; omega)]
  rw [hF]
  rw [hob] at HO
  have hc8 := (HNA.out.below HB1.out).1.c8
  clear hF HG hob
  generalize hR : goBs ks (d + 1) (c + 1) = R at *
  have HR0 := hid hR
  have hd2 : d ≤ 100 := by omega
  have hc2 : c + 1 ≤ 20000 := by omega
  clear hR h1 h2
  simp only [Bx.f, Bx.kids] at hc8
  go_enter Tryz.func93, Tryz.ntmps93
  go_upto_region 2 with fail
  clear hW1 kq fq
  go_wp2_with fail
  refine HO.out.mono ?_
  rintro e w1 ⟨rfl, n1, rfl⟩
  have HK1 := hid k1
  have HF1 := hid f1
  clear k1 f1
  go_wp2_with fail
  clear hc8 d1 d2
  go_loopw [31] (fun i wr => Below B w wr ∧ ∃ (k : Nat) (M : Int), k ≤ ks.length ∧ i = .int .i64 k ∧ wr.cell? ⟨q, 0, none⟩ = some (.int .i64 M) ∧ wr.frozen? ⟨q, 0, none⟩ = false ∧ 0 ≤ M ∧ M ≤ 20000 ∧ goBs (ks.drop k) (d + 1) M = R) (fun i _ => ks.length - (intOf i).toNat)
  case atStart => exact ⟨blDn HB1.out n1, 0, c + 1, Nat.zero_le _, rfl, HK1.out, HF1.out, by omega, hc2, HR0.out⟩
  case round =>
    obtain ⟨hb, k, M, hk, rfl, kM, fM, hM0, hM1, hrest⟩ := hrel
    have HR := hid hrest
    have HB := hid hb
    obtain ⟨h11, hg, hfo, hsrc, hkids⟩ := HNA.out.below hb
    have c8 := h11.c8
    simp only [Bx.f, Bx.kids] at c8 hkids
    clear hrest hb h11 hfo hsrc
    rcases Nat.lt_or_ge k ks.length with hlt | hge
    · obtain ⟨_, _, rs, hq, _, _, hrd, hls⟩ := hkids
      cases hq
      obtain ⟨g', o', A', c', vs', rfl, hg', hb11, hfo, hsrc, hkk⟩ := boxes_at hrd hls hlt
      obtain ⟨As', cs', rfl⟩ := hsrc.form
      have HCC := hid (HIH.out ks[k] (List.getElem_mem hlt) wr B g' (o' + k * 11) q A' As' c' cs' (d + 1) M ⟨hb11, hg', hfo, hsrc, hkk⟩ hBq kM fM ⟨hM0, hM1⟩ ⟨by omega, by omega⟩)
      have HD := hid (goBs_drop hlt (d + 1) M)
      have HI := hid (goB_iff ks[k] (d + 1) M)
      have i0 : decide ((k : Int) < (ks.length : Int)) = true := by rw [decide_eq_true_eq]; omega
      have i6 : (0 : Int) ≤ (k : Int) := by omega
      have i7 : (k : Int) < (ks.length : Int) := by omega
      generalize goB ks[k] (d + 1) M = r at *
      obtain ⟨rb, rM⟩ := r
      simp only at HI HD
      clear hrd hls hb11 hfo hsrc hkk hg hg'
      cases rb with
      | false =>
        have hF : R = (false, rM) := by rw [← HR.out, HD.out]; rfl
        rw [hF]
        clear hF HR0 HR HD HI
        go_wp2_with fail
        refine HCC.out.mono ?_
        rintro e w3 ⟨rfl, hb3, k3, f3⟩
        have HB3 := hid (HB.out.trans hb3)
        clear hb3 kM fM
        go_wp2_with fail
        go_ret
        exact ⟨rfl, HB3.out, k3, f3⟩
      | true =>
        have hrM : rM = M + cntB ks[k] := HI.out.2.1 rfl
        have hrM2 := HI.out.1.1 rfl
        have hM2 : 0 ≤ rM ∧ rM ≤ 20000 := by omega
        have HF : Hid (goBs (ks.drop (k + 1)) (d + 1) rM = R) := by show _ = _; rw [← HR.out, HD.out]; rfl
        have HM2 := hid hM2
        clear hrM hrM2 hM2 HI HD HR
        go_wp2_with fail
        refine HCC.out.mono ?_
        rintro e w3 ⟨rfl, hb3, k3, f3⟩
        have HB3 := hid (HB.out.trans hb3)
        have HK3 := hid k3
        have HF3 := hid f3
        clear hb3 kM fM k3 f3
        go_wp2_with fail
        go_roundw
        case rel => exact ⟨HB3.out, k + 1, rM, by omega, by go_num, HK3.out, HF3.out, HM2.out.1, HM2.out.2, HF.out⟩
        case measure => simp [intOf]; omega
    · have i0 : decide ((k : Int) < (ks.length : Int)) = false := by rw [decide_eq_false_iff_not]; omega
      have hF : R = (true, M) := by rw [← HR.out, List.drop_of_length_le hge]; rfl
      have HF := hid hF
      clear hF HR HR0 hkids
      go_wp2_with fail
      go_ret
      rw [HF.out]
      exact ⟨rfl, HB.out, kM, fM⟩

theorem newAt (w : World) (f : BxF) (vk vs : Value) (T : TypeId) : Box11 (w.alloc (Obj.cells (boxC f vk vs) T)) w.heap.size 0 f vk vs := Box11.new w f vk vs T

set_option maxHeartbeats 1000000 in
theorem bValid_any (b : Bx) (Ak As : Option Addr) (ck cs : Nat) (w : World) (hok : b.f.Ok) (hsrc : IntsR w (Lt w.heap.size) b.f.src (.slice As b.f.src.length cs)) (hk : BoxesS w (Lt w.heap.size) b.kids (.slice Ak b.kids.length ck)) :
    Calls Tryz.prog 58 #[.agg (boxC b.f (.slice Ak b.kids.length ck) (.slice As b.f.src.length cs))] w fun e w' => e = .returned (.bool (validB b)) ∧ Below w.heap.size w w' := by
  have hb1 : Below w.heap.size w (w.alloc (Obj.cells (boxC b.f (.slice Ak b.kids.length ck) (.slice As b.f.src.length cs)) 28)) := below_allocR _ _
  have hb2 : Below w.heap.size w ((w.alloc (Obj.cells (boxC b.f (.slice Ak b.kids.length ck) (.slice As b.f.src.length cs)) 28)).alloc (.cells #[.int .i64 0] 3)) := Below.alloc hb1 hb1.size _
  have hz : (w.alloc (Obj.cells (boxC b.f (.slice Ak b.kids.length ck) (.slice As b.f.src.length cs)) 28)).heap.size = w.heap.size + 1 := by simp
  have hat : BoxAt ((w.alloc (Obj.cells (boxC b.f (.slice Ak b.kids.length ck) (.slice As b.f.src.length cs)) 28)).alloc (.cells #[.int .i64 0] 3)) (Lt (w.heap.size + 1)) w.heap.size 0 b Ak As ck cs :=
    ⟨(Box11.new w b.f _ _ _).below (below_allocR _ _) (by rw [hz]; omega), by unfold Lt; omega, hok, hsrc.below hb2 (by omega), hk.below hb2 (by omega)⟩
  have hcnt := bvalid_any b _ (w.heap.size + 1) w.heap.size 0 (w.heap.size + 1) Ak As ck cs 1 0 hat (Nat.le_refl _) (by rw [← hz, World.cell?_alloc_new]; rfl) (by rw [← hz, World.frozen?_alloc_new]) (by omega) (by omega)
  have HC := hid hcnt
  have HB2 := hid hb2
  have HV := hid (goB_valid b)
  clear hcnt hat hb1 hb2 hz hok hsrc hk
  generalize goB b 1 0 = r at *
  generalize validB b = bv at *
  obtain ⟨f, ks⟩ := b
  obtain ⟨kind, name, size, bw, bh, bd, bx, by_, of_, src⟩ := f
  simp only [Bx.f, Bx.kids, boxC] at *
  go_enter Tryz.func58, Tryz.ntmps58
  go_wp2_with fail
  refine HC.out.mono ?_
  rintro e w1 ⟨rfl, hb, _, _⟩
  have HB3 := hid (HB2.out.trans (hb.mono (Nat.le_succ _)))
  clear hb
  go_wp2_with fail
  go_ret
  exact ⟨by rw [← HV.out]; rfl, HB3.out⟩
end Go.Proofs.YtbiloghgkmknbaaGreatDoor
