/- arrow: candidates, the iterator of the vertical moves. Written by wip/genvrt.py. -/
import Derived.Test.YtmahiejfniaahaaGreatDoorHL
import Derived.Test.YtmahiejfniaahaaGreatDoorGK
import Derived.Laws.EntriesVeiled
import Derived.Deep.RegionHeld3
import Derived.Sort.CutIn
set_option linter.unusedVariables false
set_option linter.unusedSimpArgs false
set_option maxRecDepth 100000
namespace Go.Proofs.YtmahiejfniaahaaGreatDoor
open Go Go.RowKit Go.Shelf
attribute [local go_sem] Oper.semAt_some
theorem candf_any (tk : Int) (tx : ByteArray) (tc : Int) (tn cap : Nat) (A Ak As Ap : Option Addr) (kind size bw bh bd bx by_ of_ : Int) (name : ByteArray) (kn ck sn cs pn cp : Nat) (Ad Ae : Option Addr) (nd cd ne ce : Nat) (ex et eb sign : Int) (w : World) :
    Calls Tryz.prog 129 #[.agg #[.int .i64 tk, .string tx, .int .i64 tc, .slice A tn cap, .int .i64 kind, .string name, .int .i64 size, .int .i64 bw, .int .i64 bh, .int .i64 bd, .int .i64 bx, .int .i64 by_, .slice Ak kn ck, .int .i64 of_, .slice As sn cs, .slice Ap pn cp], .slice Ad nd cd, .agg #[.slice Ae ne ce, .int .i64 ex, .int .i64 et, .int .i64 eb], .int .i64 sign] w fun e w' =>
      e = .returned (.func (.func 149) #[] #[.pointer (some ⟨w.heap.size + 1, 0, none⟩), .pointer (some ⟨w.heap.size, 0, none⟩), .pointer (some ⟨w.heap.size + 3, 0, none⟩), .pointer (some ⟨w.heap.size + 2, 0, none⟩)]) ∧
      w' = (((w.alloc (.cells #[.int .i64 tk, .string tx, .int .i64 tc, .slice A tn cap, .int .i64 kind, .string name, .int .i64 size, .int .i64 bw, .int .i64 bh, .int .i64 bd, .int .i64 bx, .int .i64 by_, .slice Ak kn ck, .int .i64 of_, .slice As sn cs, .slice Ap pn cp] 100)).alloc (.cells #[.slice Ad nd cd] 42)).alloc (.cells #[.slice Ae ne ce, .int .i64 ex, .int .i64 et, .int .i64 eb] 32)).alloc (.cells #[.int .i64 sign] 3) := by
  go_enter Tryz.func129, Tryz.ntmps129
  go_wp2_with fail
  go_ret
  exact ⟨rfl, rfl⟩
structure CandK (V : Nat → Prop) (tk : Int) (tx : ByteArray) (tc : Int) (tn cap : Nat) (A Ak As Ap : Option Addr) (kind size bw bh bd bx by_ of_ : Int) (name : ByteArray) (kn ck sn cs pn cp : Nat) (B : Nat) (Ad Ae : Option Addr) (cd ne ce : Nat) (q : List Int) (px : Int) (e : CarD) (sign : Int) (vs : List CarV) (w W' : World) : Prop where
  but : But (fun _ => V) w W'
  boxes : (W'.cell? ⟨B + 1, 0, none⟩ = some (.slice Ad vs.length cd) ∧ MovBox W' B #[.int .i64 tk, .string tx, .int .i64 tc, .slice A tn cap, .int .i64 kind, .string name, .int .i64 size, .int .i64 bw, .int .i64 bh, .int .i64 bd, .int .i64 bx, .int .i64 by_, .slice Ak kn ck, .int .i64 of_, .slice As sn cs, .slice Ap pn cp] ∧ W'.cell? ⟨B + 3, 0, none⟩ = some (.int .i64 sign) ∧ (W'.cell? ⟨B + 2, 0, none⟩ = some (.slice Ae ne ce) ∧ W'.cell? ⟨B + 2, 1, none⟩ = some (.int .i64 e.x) ∧ W'.cell? ⟨B + 2, 2, none⟩ = some (.int .i64 e.top) ∧ W'.cell? ⟨B + 2, 3, none⟩ = some (.int .i64 e.bottom)))
  at_ : ∀ k (hk : k < vs.length), ∃ g o A' c', Ad = some ⟨g, o, none⟩ ∧ g < W'.heap.size ∧ vs[k].2 = .slice A' vs[k].1.pos.length c' ∧ W'.cell? ⟨g, o + k * 4, none⟩ = some (.slice A' vs[k].1.pos.length c') ∧ W'.cell? ⟨g, o + k * 4 + 1, none⟩ = some (.int .i64 vs[k].1.x) ∧ W'.cell? ⟨g, o + k * 4 + 2, none⟩ = some (.int .i64 vs[k].1.top) ∧ W'.cell? ⟨g, o + k * 4 + 3, none⟩ = some (.int .i64 vs[k].1.bottom) ∧ IntsR W' (Lt W'.heap.size) vs[k].1.pos (.slice A' vs[k].1.pos.length c')
  pos : IntsR W' (Lt W'.heap.size) (q ++ [px]) (.slice Ap pn cp)
set_option maxHeartbeats 8000000 in
theorem cand_seq (V : Nat → Prop) (tk : Int) (tx : ByteArray) (tc : Int) (tn cap : Nat) (A Ak As Ap : Option Addr) (kind size bw bh bd bx by_ of_ : Int) (name : ByteArray) (kn ck sn cs pn cp : Nat) (B : Nat) (Ad Ae : Option Addr) (cd ne ce : Nat) (q : List Int) (px : Int) (e : CarD) (sign : Int) (vs : List CarV) (w : World)
    (hK : ∀ W', But (fun _ => V) w W' → CandK V tk tx tc tn cap A Ak As Ap kind size bw bh bd bx by_ of_ name kn ck sn cs pn cp B Ad Ae cd ne ce q px e sign vs w W') (hsm : ∀ v ∈ vs, v.1.Sm) (hne : ∀ v ∈ vs, v.1.pos ≠ []) (hse : e.Sm) (hsg : sign = 1 ∨ sign = -1) (hlen : vs.length ≤ 9223372036854775807) (hpn : pn = q.length + 1) (hB : B + 3 < w.heap.size) :
    SeqRd Tryz.prog 149 #[.pointer (some ⟨B + 1, 0, none⟩), .pointer (some ⟨B, 0, none⟩), .pointer (some ⟨B + 3, 0, none⟩), .pointer (some ⟨B + 2, 0, none⟩)] carVal (fun _ _ => True) (But (fun _ => V)) (Gdv (fun _ => V)) (fun xs => xs = vs.filter fun v => candS q e sign v.1) (fun pre => pre <+: vs.filter fun v => candS q e sign v.1) w := by
  intro l J Jx W hW hsz hJ hJx hGd hY h0
  have HK : Hid (∀ W', But (fun _ => V) w W' → CandK V tk tx tc tn cap A Ak As Ap kind size bw bh bd bx by_ of_ name kn ck sn cs pn cp B Ad Ae cd ne ce q px e sign vs w W') := hK
  have HW : Hid (But (fun _ => V) w W) := But.of_grownBy (grownBy_of_below hW) (fun k e _ => by cases e) (fun _ _ h => h)
  have HJ := hid hJ
  have HV := hid hGd
  have HY := hid hY
  have HJ0 := hid h0
  obtain ⟨CL, hCL⟩ : ∃ CL, CL = vs.filter fun v => candS q e sign v.1 := ⟨_, rfl⟩
  rw [← hCL] at HY ⊢
  have HDONE : Hid (∀ (xs : List CarV) W', xs = CL → J xs W' → (∃ xs, xs = CL ∧ J xs W') ∨ (∃ pre, pre <+: CL ∧ Jx pre W')) := fun xs W' h1 h2 => .inl ⟨xs, h1, h2⟩
  have HSTOP : Hid (∀ (pre : List CarV) W', pre <+: CL → Jx pre W' → (∃ xs, xs = CL ∧ J xs W') ∨ (∃ pre, pre <+: CL ∧ Jx pre W')) := fun xs W' h1 h2 => .inr ⟨xs, h1, h2⟩
  have HPRE : Hid (∀ k (hk : k < vs.length), (vs.take (k + 1)).filter (fun v => candS q e sign v.1) = (vs.take k).filter (fun v => candS q e sign v.1) ++ (if candS q e sign vs[k].1 = true then [vs[k]] else []) ∧ (vs.take (k + 1)).filter (fun v => candS q e sign v.1) <+: CL) := fun k hk => by
    refine ⟨?_, ?_⟩
    · rw [List.take_succ_eq_append_getElem hk, List.filter_append]
      congr 1
      simp only [List.filter_cons, List.filter_nil]
    · rw [hCL]
      conv => rhs; rw [← List.take_append_drop (k + 1) vs, List.filter_append]
      exact List.prefix_append _ _
  have HALL : Hid (∀ k, vs.length ≤ k → (vs.take k).filter (fun v => candS q e sign v.1) = CL) := fun k hk => by rw [List.take_of_length_le hk, hCL]
  have HSM := hid hsm
  have HNE := hid hne
  have HSE := hid hse
  have hse' := hse.lev
  have HLE : Hid (-140737488355328 ≤ levS e ∧ levS e ≤ 140737488355328) := hse'
  have HPN := hid hpn
  have c9 := (hK W HW.out).boxes.1
  clear hK hW hsz hJ hJx hGd hY h0 hCL hsm hne hse hse' hpn
  generalize ((∃ xs, xs = CL ∧ J xs W) : Prop) = dummy at *
  clear dummy
  refine callsIn_of_wp Tryz.func149 rfl trivial ?_ rfl
  simp only [Tryz.ntmps149, List.size_toArray, List.length_cons, List.length_nil, Nat.reduceAdd, Nat.reduceSub, Array.replicate_succ, Array.replicate_zero, List.push_toArray, List.append_toArray, List.nil_append, List.cons_append]
  gi_wp2_with fail
  gi_loopw [11] (fun i wr => But (fun _ => V) w wr ∧ ∃ k : Nat, k ≤ vs.length ∧ i = .int .i64 k ∧ J ((vs.take k).filter (fun v => candS q e sign v.1)) wr) (fun i _ => vs.length - (intOf i).toNat)
  case atStart => exact ⟨HW.out, 0, Nat.zero_le _, rfl, by simpa using HJ0.out⟩
  case round =>
    obtain ⟨hbr, k, hk, rfl, hj⟩ := hrel
    have HBR := hid hbr
    have HJR := hid hj
    have HKR := hid (HK.out wr hbr)
    clear hbr hj c9
    rcases Nat.lt_or_ge k vs.length with hlt | hge
    · have HPK := hid (HPRE.out k hlt)
      have hsk := HSM.out _ (List.getElem_mem hlt)
      have hnk := HNE.out _ (List.getElem_mem hlt)
      obtain ⟨g, o, A', c', hA, hg, hv, a0, a1, a2, a3, hi⟩ := HKR.out.at_ k hlt
      subst hA
      have HVK : Hid (vs[k] = ((vs[k].1, .slice A' vs[k].1.pos.length c') : CarV)) := by show _ = _; rw [← hv]
      have i5 : decide ((k : Int) < (vs.length : Int)) = true := by rw [decide_eq_true_eq]; omega
      have i6 : (0 : Int) ≤ (k : Int) := by omega
      have i7 : (k : Int) < (vs.length : Int) := by omega
      clear hv
      generalize hx : vs[k] = xk at *
      obtain ⟨dk, vk⟩ := xk
      simp only at a0 a1 a2 a3 hi hsk hnk HVK
      have hvk : vk = .slice A' dk.pos.length c' := by have := HVK.out; injection this
      subst hvk
      clear hx HVK
      have HI := hid hi
      have hql : 0 < dk.pos.length := List.length_pos_iff.2 hnk
      obtain ⟨X2, hX2⟩ : ∃ X, wr.alloc (.cells #[.slice A' dk.pos.length c', .int .i64 dk.x, .int .i64 dk.top, .int .i64 dk.bottom] 32) = X := ⟨_, rfl⟩
      have hb2 : Below wr.heap.size wr X2 := by rw [← hX2]; exact bNew _ _
      have hx2 : BoxL X2 wr.heap.size 0 [.slice A' dk.pos.length c', .int .i64 dk.x, .int .i64 dk.top, .int .i64 dk.bottom] ∧ wr.heap.size < X2.heap.size := by rw [← hX2]; exact ⟨BoxL.new _ _ _ _ rfl _ rfl, by simp⟩
      have HX2 := hid hx2
      have HB2 := hid hb2
      gi_upto_region 3 with fail
      try rw [hX2]
      clear hX2 hb2 hx2 a0 a1 a2 a3 hi hg
      obtain ⟨m, hm⟩ : ∃ m, dk.pos.length = m + 1 := ⟨dk.pos.length - 1, by omega⟩
      have hIt : IntsR wr (Lt wr.heap.size) dk.pos (.slice A' (m + 1) c') := by rw [← hm]; exact HI.out
      have hcp : m + 1 ≤ c' := by obtain ⟨_, _, _, hq, h1, _⟩ := HI.out; cases hq; omega
      have hm2 : m + 1 ≤ 9223372036854775807 := by have := HI.out.lens; unfold maxLen at this; omega
      obtain ⟨A1, hsl, hcut⟩ := cut_h intE Tryz.underlying26 size_int A' (m + 1) c' (m : Int) m rfl (by omega) hcp
      have hct : IntsR wr (Lt wr.heap.size) dk.pos.dropLast (.slice A1 m c') := by
        have h := hcut _ _ _ hIt
        rwa [show dk.pos.take m = dk.pos.dropLast by rw [List.dropLast_eq_take, hm]; rfl] at h
      have HCT := hid hct
      have vs1 : IntKind.i64.wrap ((m : Int) + 1 - 1) = (m : Int) := by rw [show (m : Int) + 1 - 1 = m by omega]; exact IntWalk.i64_in _ (by omega)
      have vs2 : IntKind.i64.wrap (m : Int) = (m : Int) := IntWalk.i64_in _ (by omega)
      have vs3 : (0 : Int) ≤ (m : Int) := by omega
      have vs4 : (m : Int) ≤ (m : Int) + 1 := by omega
      rw [hm] at HX2
      have KX : Hid (∀ w', Below X2.heap.size X2 w' → BoxL w' wr.heap.size 0 [.slice A' (m + 1) c', .int .i64 dk.x, .int .i64 dk.top, .int .i64 dk.bottom] ∧ CandK V tk tx tc tn cap A Ak As Ap kind size bw bh bd bx by_ of_ name kn ck sn cs pn cp B (some ⟨g, o, none⟩) Ae cd ne ce q px e sign vs w w' ∧ Below wr.heap.size wr w' ∧ But (fun _ => V) wr w') := fun W hW => by
        have hb := bCl HB2.out hW
        have hbt := But.of_below hb (HV.out _ _ HJR.out)
        exact ⟨HX2.out.1.below hW HX2.out.2, HK.out W (HBR.out.trans hbt), hb, hbt⟩
      have HPA : Hid (∀ w', Below X2.heap.size X2 w' → Calls Tryz.prog 96 #[.agg #[.int .i64 tk, .string tx, .int .i64 tc, .slice A tn cap, .int .i64 kind, .string name, .int .i64 size, .int .i64 bw, .int .i64 bh, .int .i64 bd, .int .i64 bx, .int .i64 by_, .slice Ak kn ck, .int .i64 of_, .slice As sn cs, .slice Ap pn cp]] w' (IntsPost w' q)) := fun W hW => mpath_any tk tx tc tn cap A Ak As Ap kind size bw bh bd bx by_ of_ name kn ck sn cs pn cp q px W (KX.out W hW).2.1.pos HPN.out
      have HEQ : Hid (∀ w' A2 c2, Below X2.heap.size X2 w' → IntsR w' (Lt w'.heap.size) q (.slice A2 q.length c2) → Calls Tryz.prog 123 #[.slice A1 m c', .slice A2 q.length c2] w' fun r w'' => r = .returned (.bool (decide (dk.pos.dropLast = q))) ∧ ∃ n, w'' = w'.drewN n) := fun W A2 c2 hW h2 => equal_q dk.pos.dropLast q W _ _ _ _ (HCT.out.below (KX.out W hW).2.2.1 (KX.out W hW).2.2.1.size) h2
      have HPK' : Hid ((vs.take (k + 1)).filter (fun v => candS q e sign v.1) = (vs.take k).filter (fun v => candS q e sign v.1) ++ (if candS q e sign dk = true then [((dk, .slice A' (m + 1) c') : CarV)] else []) ∧ (vs.take (k + 1)).filter (fun v => candS q e sign v.1) <+: CL) := by rw [← hm]; exact HPK.out
      have HCS : Hid (candS q e sign dk = (!decide (dk.pos.dropLast = q) && decide (0 < sign * (levS dk - levS e)))) := rfl
      clear hIt hcp hcut hct hm HPK hql hnk
      have hlk := hsk.lev
      have HSK := hid hsk
      generalize hcn : candS q e sign dk = cn at *
      generalize decide (dk.pos.dropLast = q) = same at *
      clear hcn hsk
      obtain ⟨hxb, hck, _, _⟩ := KX.out X2 (Below.refl _ _)
      have hmv := hck.boxes.2.1
      have x0 := hxb 0 _ rfl
      have m0 := hmv 0 _ rfl
      have m1 := hmv 1 _ rfl
      have m2 := hmv 2 _ rfl
      have m3 := hmv 3 _ rfl
      have m4 := hmv 4 _ rfl
      have m5 := hmv 5 _ rfl
      have m6 := hmv 6 _ rfl
      have m7 := hmv 7 _ rfl
      have m8 := hmv 8 _ rfl
      have m9 := hmv 9 _ rfl
      have m10 := hmv 10 _ rfl
      have m11 := hmv 11 _ rfl
      have m12 := hmv 12 _ rfl
      have m13 := hmv 13 _ rfl
      have m14 := hmv 14 _ rfl
      have m15 := hmv 15 _ rfl
      simp only [Nat.zero_add] at x0
      clear hxb hck hmv
      have KM : Hid (∀ w', Below X2.heap.size X2 w' → w'.cell? ⟨wr.heap.size, 0, none⟩ = some (.slice A' (m + 1) c') ∧ w'.cell? ⟨B, 0, none⟩ = some (.int .i64 tk) ∧ w'.cell? ⟨B, 1, none⟩ = some (.string tx) ∧ w'.cell? ⟨B, 2, none⟩ = some (.int .i64 tc) ∧ w'.cell? ⟨B, 3, none⟩ = some (.slice A tn cap) ∧ w'.cell? ⟨B, 4, none⟩ = some (.int .i64 kind) ∧ w'.cell? ⟨B, 5, none⟩ = some (.string name) ∧ w'.cell? ⟨B, 6, none⟩ = some (.int .i64 size) ∧ w'.cell? ⟨B, 7, none⟩ = some (.int .i64 bw) ∧ w'.cell? ⟨B, 8, none⟩ = some (.int .i64 bh) ∧ w'.cell? ⟨B, 9, none⟩ = some (.int .i64 bd) ∧ w'.cell? ⟨B, 10, none⟩ = some (.int .i64 bx) ∧ w'.cell? ⟨B, 11, none⟩ = some (.int .i64 by_) ∧ w'.cell? ⟨B, 12, none⟩ = some (.slice Ak kn ck) ∧ w'.cell? ⟨B, 13, none⟩ = some (.int .i64 of_) ∧ w'.cell? ⟨B, 14, none⟩ = some (.slice As sn cs) ∧ w'.cell? ⟨B, 15, none⟩ = some (.slice Ap pn cp)) := fun W hW => by
        obtain ⟨hxb, hck, _, _⟩ := KX.out W hW
        have hmv := hck.boxes.2.1
        have x0 := hxb 0 _ rfl
        have m0 := hmv 0 _ rfl
        have m1 := hmv 1 _ rfl
        have m2 := hmv 2 _ rfl
        have m3 := hmv 3 _ rfl
        have m4 := hmv 4 _ rfl
        have m5 := hmv 5 _ rfl
        have m6 := hmv 6 _ rfl
        have m7 := hmv 7 _ rfl
        have m8 := hmv 8 _ rfl
        have m9 := hmv 9 _ rfl
        have m10 := hmv 10 _ rfl
        have m11 := hmv 11 _ rfl
        have m12 := hmv 12 _ rfl
        have m13 := hmv 13 _ rfl
        have m14 := hmv 14 _ rfl
        have m15 := hmv 15 _ rfl
        simp only [Nat.zero_add] at x0
        exact ⟨x0, m0, m1, m2, m3, m4, m5, m6, m7, m8, m9, m10, m11, m12, m13, m14, m15⟩
      have HFIN : Hid (∀ w', Below X2.heap.size X2 w' → But (fun _ => V) w w' ∧ J ((vs.take k).filter (fun v => candS q e sign v.1)) w') := fun W hW => by
        obtain ⟨_, _, hb, hbt⟩ := KX.out W hW
        exact ⟨HBR.out.trans hbt, HJ.out _ _ _ HJR.out hb⟩
      gi_cut [8] from 12 (fun v wx => v = .bool same ∧ Below X2.heap.size X2 wx)
      case first =>
        gi_wp2_with fail
        refine wpIn_wide.2 ?_
        go_region_held3 (fun w' => w'.cell? ⟨wr.heap.size, 0, none⟩ = some (.slice A' (m + 1) c') ∧ w'.cell? ⟨B, 0, none⟩ = some (.int .i64 tk) ∧ w'.cell? ⟨B, 1, none⟩ = some (.string tx) ∧ w'.cell? ⟨B, 2, none⟩ = some (.int .i64 tc) ∧ w'.cell? ⟨B, 3, none⟩ = some (.slice A tn cap) ∧ w'.cell? ⟨B, 4, none⟩ = some (.int .i64 kind) ∧ w'.cell? ⟨B, 5, none⟩ = some (.string name) ∧ w'.cell? ⟨B, 6, none⟩ = some (.int .i64 size) ∧ w'.cell? ⟨B, 7, none⟩ = some (.int .i64 bw) ∧ w'.cell? ⟨B, 8, none⟩ = some (.int .i64 bh) ∧ w'.cell? ⟨B, 9, none⟩ = some (.int .i64 bd) ∧ w'.cell? ⟨B, 10, none⟩ = some (.int .i64 bx) ∧ w'.cell? ⟨B, 11, none⟩ = some (.int .i64 by_) ∧ w'.cell? ⟨B, 12, none⟩ = some (.slice Ak kn ck) ∧ w'.cell? ⟨B, 13, none⟩ = some (.int .i64 of_) ∧ w'.cell? ⟨B, 14, none⟩ = some (.slice As sn cs) ∧ w'.cell? ⟨B, 15, none⟩ = some (.slice Ap pn cp)) (go_keep) (first
          | (go_at_call 96; (with_reducible refine (HPA.out _ (Below.refl _ _).drew).mono ?_); rintro r0 w5 ⟨v5, rfl, hi5, hb5⟩; obtain ⟨A5, c5, rfl⟩ := hi5.form; have HB5 : Hid (Below X2.heap.size X2 w5) := bDr hb5; have HI5 := hid hi5; clear hb5 hi5; obtain ⟨x0, m0, m1, m2, m3, m4, m5, m6, m7, m8, m9, m10, m11, m12, m13, m14, m15⟩ := KM.out w5 HB5.out)
          | (go_at_call 96; (with_reducible refine (HPA.out _ (Below.refl _ _)).mono ?_); rintro r0 w5 ⟨v5, rfl, hi5, hb5⟩; obtain ⟨A5, c5, rfl⟩ := hi5.form; have HB5 := hid hb5; have HI5 := hid hi5; clear hb5 hi5; obtain ⟨x0, m0, m1, m2, m3, m4, m5, m6, m7, m8, m9, m10, m11, m12, m13, m14, m15⟩ := KM.out w5 HB5.out)
          | (go_at_call 123; (with_reducible refine (HEQ.out w5 A5 c5 HB5.out HI5.out).mono ?_); rintro r0 w6 ⟨rfl, n6, hw6⟩; have HB6 : Hid (Below X2.heap.size X2 w6) := hid (hw6 ▸ bDn HB5.out n6); obtain ⟨x0, m0, m1, m2, m3, m4, m5, m6, m7, m8, m9, m10, m11, m12, m13, m14, m15⟩ := KM.out w6 HB6.out; clear hw6)
          | fail)
        all_goals
          gi_wp2_with fail
          gi_meet
          exact ⟨rfl, HB6.out⟩
      case rest =>
       obtain ⟨rfl, hcb⟩ := hcut
       have HB6 := hid hcb
       gi_upto_region 4 with fail
       clear hcb x0 m0 m1 m2 m3 m4 m5 m6 m7 m8 m9 m10 m11 m12 m13 m14 m15 HPA HEQ KM hsl
       cases same with
       | true =>
         have HPK2 : Hid ((vs.take (k + 1)).filter (fun v => candS q e sign v.1) = (vs.take k).filter (fun v => candS q e sign v.1)) := by
           show _ = _
           rw [HPK'.out.1, HCS.out]
           simp
         clear HPK' HCS
         refine wpIn_wide.2 ?_
         go_quiet (fail)
         gi_wp2_with fail
         go_roundw
         case rel => exact ⟨(HFIN.out _ (bDn HB6.out _)).1, k + 1, by omega, by go_num, by rw [HPK2.out]; exact (HFIN.out _ (bDn HB6.out _)).2⟩
         case measure => simp [intOf]; omega
       | false =>
         have hle := HLE.out
         have v1 : IntKind.i64.wrap (levS dk - levS e) = levS dk - levS e := IntWalk.i64_in _ (by omega)
         obtain ⟨sd, hsd⟩ : ∃ sd, sign * (levS dk - levS e) = sd := ⟨_, rfl⟩
         have v2 : IntKind.i64.wrap (sign * (levS dk - levS e)) = sd := by
           rw [← hsd]
           rcases hsg with rfl | rfl <;> exact IntWalk.i64_in _ (by omega)
         rw [hsd] at HCS
         clear hle hsd hlk
         have CLD : Hid (∀ W, Calls Tryz.prog 131 #[.agg #[.slice A' (m + 1) c', .int .i64 dk.x, .int .i64 dk.top, .int .i64 dk.bottom]] W fun e w' => e = .returned (.int .i64 (levS dk)) ∧ Below W.heap.size W w') := fun W => (alevel_any dk A' (m + 1) c' W HSK.out).mono fun e w' h => ⟨h.1, h.2 ▸ bNew _ _⟩
         have CLE : Hid (∀ W, Calls Tryz.prog 131 #[.agg #[.slice Ae ne ce, .int .i64 e.x, .int .i64 e.top, .int .i64 e.bottom]] W fun e' w' => e' = .returned (.int .i64 (levS e)) ∧ Below W.heap.size W w') := fun W => (alevel_any e Ae ne ce W HSE.out).mono fun e w' h => ⟨h.1, h.2 ▸ bNew _ _⟩
         generalize levS dk = ld at *
         generalize levS e = le at *
         have KQ : Hid (∀ w', Below X2.heap.size X2 w' → w'.cell? ⟨wr.heap.size, 0, none⟩ = some (.slice A' (m + 1) c') ∧ w'.cell? ⟨wr.heap.size, 1, none⟩ = some (.int .i64 dk.x) ∧ w'.cell? ⟨wr.heap.size, 2, none⟩ = some (.int .i64 dk.top) ∧ w'.cell? ⟨wr.heap.size, 3, none⟩ = some (.int .i64 dk.bottom) ∧ w'.cell? ⟨B + 2, 0, none⟩ = some (.slice Ae ne ce) ∧ w'.cell? ⟨B + 2, 1, none⟩ = some (.int .i64 e.x) ∧ w'.cell? ⟨B + 2, 2, none⟩ = some (.int .i64 e.top) ∧ w'.cell? ⟨B + 2, 3, none⟩ = some (.int .i64 e.bottom) ∧ w'.cell? ⟨B + 3, 0, none⟩ = some (.int .i64 sign)) := fun W hW => by
           obtain ⟨hxb, hck, _, _⟩ := KX.out W hW
           obtain ⟨_, _, s0, e0, e1, e2, e3⟩ := hck.boxes
           have x0 := hxb 0 _ rfl
           have x1 := hxb 1 _ rfl
           have x2 := hxb 2 _ rfl
           have x3 := hxb 3 _ rfl
           simp only [Nat.zero_add] at x0 x1 x2 x3
           exact ⟨x0, x1, x2, x3, e0, e1, e2, e3, s0⟩
         by_cases hlt0 : 0 < sd
         · have u1 : decide (0 < sd) = true := decide_eq_true hlt0
           have HPK2 : Hid ((vs.take (k + 1)).filter (fun v => candS q e sign v.1) = (vs.take k).filter (fun v => candS q e sign v.1) ++ [((dk, .slice A' (m + 1) c') : CarV)] ∧ (vs.take k).filter (fun v => candS q e sign v.1) ++ [((dk, .slice A' (m + 1) c') : CarV)] <+: CL) := by
             have h := HPK'.out
             rw [HCS.out, u1] at h
             simp only [Bool.not_false, Bool.and_self, if_true] at h
             exact ⟨h.1, h.1 ▸ h.2⟩
           clear HPK' HCS hlt0
           have HYY : Hid (∀ w1, Below X2.heap.size X2 w1 → YieldAt Fence.wide 0 Tryz.prog l #[.agg #[.slice A' (m + 1) c', .int .i64 dk.x, .int .i64 dk.top, .int .i64 dk.bottom]] w1 fun r W' =>
               ∃ bb : Bool, r = .returned (.bool bb) ∧ Hid ((bb = true ∧ J ((vs.take k).filter (fun v => candS q e sign v.1) ++ [((dk, .slice A' (m + 1) c') : CarV)]) W' ∧ But (fun _ => V) w W') ∨ (bb = false ∧ Jx ((vs.take k).filter (fun v => candS q e sign v.1) ++ [((dk, .slice A' (m + 1) c') : CarV)]) W'))) := fun w1 hb1 => by
             obtain ⟨h1, h2⟩ := HFIN.out w1 hb1
             exact YieldAt.mono (HY.out _ ((dk, .slice A' (m + 1) c') : CarV) w1 h2 trivial HPK2.out.2) fun r W' h => by
               rcases h with ⟨a, b, c⟩ | ⟨a, b⟩
               · exact ⟨true, a, .inl ⟨rfl, b, h1.trans c⟩⟩
               · exact ⟨false, a, .inr ⟨rfl, b⟩⟩
           obtain ⟨x0, x1, x2, x3, e0, e1, e2, e3, s0⟩ := KQ.out wc HB6.out
           gi_region_with (first
             | (refine ⟨trivial, rfl, ?_⟩; gi_at_call 131; refine (callsIn_wide.2 (CLE.out _)).mono ?_; rintro r0 w8 ⟨rfl, hb8⟩; have HB8 : Hid (Below X2.heap.size X2 w8) := hid (bCl HB7.out hb8); clear hb8; obtain ⟨x0, x1, x2, x3, e0, e1, e2, e3, s0⟩ := KQ.out _ HB8.out; obtain ⟨fn, tmps, assign, body, hy, hR⟩ := HYY.out w8 HB8.out)
             | (refine ⟨trivial, rfl, ?_⟩; gi_at_call 131; refine (callsIn_wide.2 (CLD.out _)).mono ?_; rintro r0 w8 ⟨rfl, hb8⟩; have HB8 : Hid (Below X2.heap.size X2 w8) := hid (bCl HB9.out hb8); clear hb8; obtain ⟨x0, x1, x2, x3, e0, e1, e2, e3, s0⟩ := KQ.out _ HB8.out; obtain ⟨fn, tmps, assign, body, hy, hR⟩ := HYY.out w8 HB8.out)
             | (refine ⟨trivial, rfl, ?_⟩; gi_at_call 131; refine (callsIn_wide.2 (CLD.out _)).mono ?_; rintro r0 w7 ⟨rfl, hbf⟩; have HB7 : Hid (Below X2.heap.size X2 w7) := hid (bCl HB6.out (by first | exact hbf | exact bDr hbf)); clear hbf; obtain ⟨x0, x1, x2, x3, e0, e1, e2, e3, s0⟩ := KQ.out _ HB7.out)
             | (refine ⟨trivial, rfl, ?_⟩; gi_at_call 131; refine (callsIn_wide.2 (CLE.out _)).mono ?_; rintro r0 w9 ⟨rfl, hbf⟩; have HB9 : Hid (Below X2.heap.size X2 w9) := hid (bCl HB6.out (by first | exact hbf | exact bDr hbf)); clear hbf; obtain ⟨x0, x1, x2, x3, e0, e1, e2, e3, s0⟩ := KQ.out _ HB9.out)
             | ((try refine ⟨rfl, ?_⟩); refine hR.mono ?_; clear hR; rintro r0 W2 ⟨bb, rfl, HB3⟩))
           all_goals
             obtain ⟨qq, hqq⟩ : ∃ qq, qq = HB3.out := ⟨_, rfl⟩
             clear hqq
             rcases qq with ⟨rfl, q1, q2⟩ | ⟨rfl, q1⟩
             · have Q1 := hid q1
               have Q2 := hid q2
               clear q1 q2 HB3
               gi_wp2_with fail
               go_roundw
               case rel => exact ⟨Q2.out, k + 1, by omega, by go_num, by rw [HPK2.out.1]; exact Q1.out⟩
               case measure => simp [intOf]; omega
             · have Q1 := hid q1
               clear q1 HB3
               gi_wp2_with fail
               refine bodyPost_ret (v := .tuple #[]) (by simp [results, Tryz.results149, go_sem]) rfl ?_
               exact ⟨⟨_, rfl⟩, HSTOP.out _ _ HPK2.out.2 Q1.out⟩
         · have u1 : decide (0 < sd) = false := decide_eq_false hlt0
           have HPK2 : Hid ((vs.take (k + 1)).filter (fun v => candS q e sign v.1) = (vs.take k).filter (fun v => candS q e sign v.1)) := by
             show _ = _
             rw [HPK'.out.1, HCS.out, u1]
             simp
           clear HPK' HCS hlt0
           obtain ⟨x0, x1, x2, x3, e0, e1, e2, e3, s0⟩ := KQ.out wc HB6.out
           refine wpIn_wide.2 ?_
           refine wp_region_held_drew (S := (fun w' => w'.cell? ⟨wr.heap.size, 0, none⟩ = some (.slice A' (m + 1) c') ∧ w'.cell? ⟨wr.heap.size, 1, none⟩ = some (.int .i64 dk.x) ∧ w'.cell? ⟨wr.heap.size, 2, none⟩ = some (.int .i64 dk.top) ∧ w'.cell? ⟨wr.heap.size, 3, none⟩ = some (.int .i64 dk.bottom) ∧ w'.cell? ⟨B + 2, 0, none⟩ = some (.slice Ae ne ce) ∧ w'.cell? ⟨B + 2, 1, none⟩ = some (.int .i64 e.x) ∧ w'.cell? ⟨B + 2, 2, none⟩ = some (.int .i64 e.top) ∧ w'.cell? ⟨B + 2, 3, none⟩ = some (.int .i64 e.bottom) ∧ w'.cell? ⟨B + 3, 0, none⟩ = some (.int .i64 sign))) (by kernel_rfl) (by go_simp) (fun hHeld => ?_)
           refine wpAnyH_take (i := 0) (oi := ⟨some 25, _, _, _, _, _⟩) (v := ?_) rfl (by kernel_rfl) (by kernel_rfl) (by kernel_rfl) (fun _ _ _ h => h) (Or.inl ⟨by rfl, ?_⟩) hHeld ?_
           rotate_left
           · (intro w hSw; obtain ⟨t0, t1, t2, t3, t4, t5, t6, t7, t8⟩ := hSw; go_simp; try with_reducible rfl)
           try simp only [Act.put, List.setIfInBounds_toArray, List.set_cons_zero, List.set_cons_succ]
           refine wpAnyH_take (i := 1) (oi := ⟨some 26, _, _, _, _, _⟩) (v := ?_) rfl (by kernel_rfl) (by kernel_rfl) (by kernel_rfl) (fun _ _ _ h => h) (Or.inl ⟨by rfl, ?_⟩) hHeld ?_
           rotate_left
           · (intro w hSw; obtain ⟨t0, t1, t2, t3, t4, t5, t6, t7, t8⟩ := hSw; go_simp; try with_reducible rfl)
           try simp only [Act.put, List.setIfInBounds_toArray, List.set_cons_zero, List.set_cons_succ]
           refine wpAnyH_take (i := 2) (oi := ⟨some 27, _, _, _, _, _⟩) (v := ?_) rfl (by kernel_rfl) (by kernel_rfl) (by kernel_rfl) (fun _ _ _ h => h) (Or.inl ⟨by rfl, ?_⟩) hHeld ?_
           rotate_left
           · (intro w hSw; obtain ⟨t0, t1, t2, t3, t4, t5, t6, t7, t8⟩ := hSw; go_simp; try with_reducible rfl)
           try simp only [Act.put, List.setIfInBounds_toArray, List.set_cons_zero, List.set_cons_succ]
           refine wpAnyH_take (i := 3) (oi := ⟨some 28, _, _, _, _, _⟩) (v := ?_) rfl (by kernel_rfl) (by kernel_rfl) (by kernel_rfl) (fun _ _ _ h => h) (Or.inl ⟨by rfl, ?_⟩) hHeld ?_
           rotate_left
           · (intro w hSw; obtain ⟨t0, t1, t2, t3, t4, t5, t6, t7, t8⟩ := hSw; go_simp; try with_reducible rfl)
           try simp only [Act.put, List.setIfInBounds_toArray, List.set_cons_zero, List.set_cons_succ]
           refine wpAnyH_take (i := 4) (oi := ⟨some 29, _, _, _, _, _⟩) (v := ?_) rfl (by kernel_rfl) (by kernel_rfl) (by kernel_rfl) (fun _ _ _ h => h) (Or.inl ⟨by rfl, ?_⟩) hHeld ?_
           rotate_left
           · (intro w hSw; obtain ⟨t0, t1, t2, t3, t4, t5, t6, t7, t8⟩ := hSw; go_simp; try with_reducible rfl)
           try simp only [Act.put, List.setIfInBounds_toArray, List.set_cons_zero, List.set_cons_succ]
           refine wpAnyH_take (i := 6) (oi := ⟨some 31, _, _, _, _, _⟩) (v := ?_) rfl (by kernel_rfl) (by kernel_rfl) (by kernel_rfl) (fun _ _ _ h => h) (Or.inl ⟨by rfl, ?_⟩) hHeld ?_
           rotate_left
           · (intro w hSw; obtain ⟨t0, t1, t2, t3, t4, t5, t6, t7, t8⟩ := hSw; go_simp; try with_reducible rfl)
           try simp only [Act.put, List.setIfInBounds_toArray, List.set_cons_zero, List.set_cons_succ]
           refine wpAnyH_ready (rs := [5]) (by kernel_rfl) (by simp) ?_
           refine AllReadyH.cons (o := ⟨some 30, _, _, _, _, _⟩) rfl (fun K hK => ?_) AllReadyH.nil
           go_simp
           go_at_call 131
           refine (CLD.out _).mono ?_
           rintro r0 w7 ⟨rfl, hbf⟩
           have HB7 : Hid (Below X2.heap.size X2 w7) := hid (bCl HB6.out (by first | exact hbf | exact bDr hbf))
           clear hbf
           obtain ⟨x0, x1, x2, x3, e0, e1, e2, e3, s0⟩ := KQ.out w7 HB7.out
           go_wp2_with fail
           refine hK.out _ _ ⟨x0, x1, x2, x3, e0, e1, e2, e3, s0⟩ (fun hHeld2 => ?_)
           clear hK K hHeld
           have hHeld := hHeld2
           clear hHeld2
           try simp only [Act.put, List.setIfInBounds_toArray, List.set_cons_zero, List.set_cons_succ]
           refine wpAnyH_ready (rs := [7]) (by kernel_rfl) (by simp) ?_
           refine AllReadyH.cons (o := ⟨some 32, _, _, _, _, _⟩) rfl (fun K hK => ?_) AllReadyH.nil
           go_simp
           go_at_call 131
           refine (CLE.out _).mono ?_
           rintro r0 w8 ⟨rfl, hbf⟩
           have HB8 : Hid (Below X2.heap.size X2 w8) := hid (bCl HB7.out (by first | exact hbf | exact bDr hbf))
           clear hbf
           obtain ⟨x0, x1, x2, x3, e0, e1, e2, e3, s0⟩ := KQ.out w8 HB8.out
           go_wp2_with fail
           refine hK.out _ _ ⟨x0, x1, x2, x3, e0, e1, e2, e3, s0⟩ (fun hHeld2 => ?_)
           clear hK K hHeld
           have hHeld := hHeld2
           clear hHeld2
           try simp only [Act.put, List.setIfInBounds_toArray, List.set_cons_zero, List.set_cons_succ]
           refine wpAnyH_take (i := 8) (oi := ⟨some 33, _, _, _, _, _⟩) (v := ?_) rfl (by kernel_rfl) (by kernel_rfl) (by kernel_rfl) (fun _ _ _ h => h) (Or.inl ⟨by rfl, ?_⟩) hHeld ?_
           rotate_left
           · (intro w hSw; obtain ⟨t0, t1, t2, t3, t4, t5, t6, t7, t8⟩ := hSw; go_simp; try with_reducible rfl)
           try simp only [Act.put, List.setIfInBounds_toArray, List.set_cons_zero, List.set_cons_succ]
           refine wpAnyH_take (i := 9) (oi := ⟨some 34, _, _, _, _, _⟩) (v := ?_) rfl (by kernel_rfl) (by kernel_rfl) (by kernel_rfl) (fun _ _ _ h => h) (Or.inl ⟨by rfl, ?_⟩) hHeld ?_
           rotate_left
           · (intro w hSw; obtain ⟨t0, t1, t2, t3, t4, t5, t6, t7, t8⟩ := hSw; go_simp; try with_reducible rfl)
           try simp only [Act.put, List.setIfInBounds_toArray, List.set_cons_zero, List.set_cons_succ]
           refine wpAnyH_take (i := 10) (oi := ⟨some 35, _, _, _, _, _⟩) (v := ?_) rfl (by kernel_rfl) (by kernel_rfl) (by kernel_rfl) (fun _ _ _ h => h) (Or.inl ⟨by rfl, ?_⟩) hHeld ?_
           rotate_left
           · (intro w hSw; obtain ⟨t0, t1, t2, t3, t4, t5, t6, t7, t8⟩ := hSw; go_simp; try with_reducible rfl)
           try simp only [Act.put, List.setIfInBounds_toArray, List.set_cons_zero, List.set_cons_succ]
           refine wpAnyH_take (i := 11) (oi := ⟨some 36, _, _, _, _, _⟩) (v := ?_) rfl (by kernel_rfl) (by kernel_rfl) (by kernel_rfl) (fun _ _ _ h => h) (Or.inl ⟨by rfl, ?_⟩) hHeld ?_
           rotate_left
           · (intro w hSw; obtain ⟨t0, t1, t2, t3, t4, t5, t6, t7, t8⟩ := hSw; go_simp; try with_reducible rfl)
           try simp only [Act.put, List.setIfInBounds_toArray, List.set_cons_zero, List.set_cons_succ]
           refine wpAnyH_take (i := 12) (oi := ⟨some 37, _, _, _, _, _⟩) (v := ?_) rfl (by kernel_rfl) (by kernel_rfl) (by kernel_rfl) (fun _ _ _ h => h) (Or.inl ⟨by rfl, ?_⟩) hHeld ?_
           rotate_left
           · (intro w hSw; obtain ⟨t0, t1, t2, t3, t4, t5, t6, t7, t8⟩ := hSw; go_simp; try with_reducible rfl)
           try simp only [Act.put, List.setIfInBounds_toArray, List.set_cons_zero, List.set_cons_succ]
           refine wpAnyH_take (i := 13) (oi := ⟨some 38, _, _, _, _, _⟩) (v := undef) rfl (by kernel_rfl) (by kernel_rfl) (by kernel_rfl) (fun _ _ _ h => h) (Or.inr ⟨by kernel_rfl, rfl⟩) hHeld ?_
           try simp only [Act.put, List.setIfInBounds_toArray, List.set_cons_zero, List.set_cons_succ]
           refine wpAnyH_take (i := 14) (oi := ⟨some 39, _, _, _, _, _⟩) (v := undef) rfl (by kernel_rfl) (by kernel_rfl) (by kernel_rfl) (fun _ _ _ h => h) (Or.inr ⟨by kernel_rfl, rfl⟩) hHeld ?_
           try simp only [Act.put, List.setIfInBounds_toArray, List.set_cons_zero, List.set_cons_succ]
           refine wpAnyH_take (i := 15) (oi := ⟨some 40, _, _, _, _, _⟩) (v := undef) rfl (by kernel_rfl) (by kernel_rfl) (by kernel_rfl) (fun _ _ _ h => h) (Or.inr ⟨by kernel_rfl, rfl⟩) hHeld ?_
           try simp only [Act.put, List.setIfInBounds_toArray, List.set_cons_zero, List.set_cons_succ]
           refine wpAnyH_take (i := 16) (oi := ⟨some 41, _, _, _, _, _⟩) (v := undef) rfl (by kernel_rfl) (by kernel_rfl) (by kernel_rfl) (fun _ _ _ h => h) (Or.inr ⟨by kernel_rfl, rfl⟩) hHeld ?_
           try simp only [Act.put, List.setIfInBounds_toArray, List.set_cons_zero, List.set_cons_succ]
           refine wpAnyH_take (i := 17) (oi := ⟨some 42, _, _, _, _, _⟩) (v := .bool false) rfl (by kernel_rfl) (by kernel_rfl) (by kernel_rfl) (fun _ _ _ h => h) (Or.inl ⟨by kernel_rfl, ?_⟩) hHeld ?_
           · (intro w hSw; obtain ⟨t0, t1, t2, t3, t4, t5, t6, t7, t8⟩ := hSw; go_simp; try with_reducible rfl)
           try simp only [Act.put, List.setIfInBounds_toArray, List.set_cons_zero, List.set_cons_succ]
           refine wpAnyH_done (by kernel_rfl) ?_ _
           clear hHeld
           gi_wp2_with fail
           go_roundw
           case rel => exact ⟨(HFIN.out _ HB8.out).1, k + 1, by omega, by go_num, by rw [HPK2.out]; exact (HFIN.out _ HB8.out).2⟩
           case measure => simp [intOf]; omega
    · have i5 : decide ((k : Int) < (vs.length : Int)) = false := by rw [decide_eq_false_iff_not]; omega
      gi_wp2_with fail
      go_end0
      exact ⟨⟨_, rfl⟩, HDONE.out _ _ (HALL.out k hge) HJR.out⟩
end Go.Proofs.YtmahiejfniaahaaGreatDoor
