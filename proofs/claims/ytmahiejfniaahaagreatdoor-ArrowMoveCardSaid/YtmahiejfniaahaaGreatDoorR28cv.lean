/- ref28: proper, Valid. Written by wip/genr28.py. -/
import Derived.Test.YtmahiejfniaahaaGreatDoorHJ
set_option linter.unusedVariables false
set_option linter.unusedSimpArgs false
set_option maxRecDepth 100000
namespace Go.Proofs.YtmahiejfniaahaaGreatDoor
open Go.RowKit
set_option maxHeartbeats 8000000 in
theorem proper28_any (b : Bx) : ∀ (Ak As : Option Addr) (ck cs : Nat) (w : World), b.f.name.size ≤ maxLen → IntsR w (Lt w.heap.size) b.f.src (.slice As b.f.src.length cs) → BoxesS w (Lt w.heap.size) b.kids (.slice Ak b.kids.length ck) → Calls Tryz.prog 82 #[.agg (boxC b.f (.slice Ak b.kids.length ck) (.slice As b.f.src.length cs))] w fun e w' => e = .returned (.bool (properB b)) ∧ Below w.heap.size w w' := by
  induction b using Bx.ind with
  | h b ih =>
  obtain ⟨f, ks⟩ := b
  intro Ak As ck cs w hname hsrc hks
  simp only [Bx.f, Bx.kids] at *
  have hlen := hks.lens
  unfold maxLen at hlen
  have HSC : Hid (∀ W, Below w.heap.size w W → Calls Tryz.prog 109 #[.agg (boxC f (.slice Ak ks.length ck) (.slice As f.src.length cs))] W fun e w' => e = .returned (.bool (srcOk f)) ∧ Below W.heap.size W w') := fun W hW => rsource_any f ks.length Ak As ck cs W (hsrc.below hW hW.size)
  have HN := hid (fun W => rname_q f.name W hname)
  obtain ⟨W0, hW0⟩ : ∃ W0, w.alloc (Obj.cells (boxC f (.slice Ak ks.length ck) (.slice As f.src.length cs)) 28) = W0 := ⟨_, rfl⟩
  obtain ⟨W1, hW1⟩ : ∃ W1, W0.alloc (Obj.cells #[.int .i64 f.w, .int .i64 f.h, .int .i64 f.d, .int .i64 f.x, .int .i64 f.y] 3) = W1 := ⟨_, rfl⟩
  have hz0 : W0.heap.size = w.heap.size + 1 := by rw [← hW0]; simp
  have hz1 : W1.heap.size = w.heap.size + 2 := by rw [← hW1]; simp [hz0]
  have hb0 : Below w.heap.size w W0 := by rw [← hW0]; exact bNew _ _
  have hb01 : Below W0.heap.size W0 W1 := by rw [← hW1]; exact bNew _ _
  have hb1 : Below w.heap.size w W1 := hb0.trans (hb01.mono hb0.size)
  have HBW1 := hid hb1
  have hbx0 : BoxL W0 w.heap.size 0 (boxL f (.slice Ak ks.length ck) (.slice As f.src.length cs)) := by rw [← hW0]; exact BoxL.new _ _ _ _ rfl _ rfl
  have hbx1 : BoxL W1 W0.heap.size 0 [.int .i64 f.w, .int .i64 f.h, .int .i64 f.d, .int .i64 f.x, .int .i64 f.y] := by rw [← hW1]; exact BoxL.new _ _ _ _ rfl _ rfl
  have HCB : Hid (∀ W, Below W1.heap.size W1 W → BoxL W w.heap.size 0 (boxL f (.slice Ak ks.length ck) (.slice As f.src.length cs)) ∧ Below w.heap.size w W) := fun W hW => ⟨(hbx0.below hb01 (by omega)).below hW (by omega), hb1.trans (hW.mono hb1.size)⟩
  have HKID : Hid (∀ k (hk : k < ks.length), ∃ gk ok A' cap' B' c', Ak = some ⟨gk, ok, none⟩ ∧ gk < w.heap.size ∧ Box11 w gk (ok + k * 11) ks[k].f (.slice A' ks[k].kids.length cap') (.slice B' ks[k].f.src.length c') ∧ ks[k].f.name.size ≤ maxLen ∧ IntsR w (Lt w.heap.size) ks[k].f.src (.slice B' ks[k].f.src.length c') ∧ BoxesS w (Lt w.heap.size) ks[k].kids (.slice A' ks[k].kids.length cap')) := fun k hk => by
    obtain ⟨_, _, rs, hq', _, _, hrd, hls⟩ := hks
    cases hq'
    obtain ⟨g, o, A', c', vs, e, h1, h2, h3, h4, h5⟩ := boxes_at hrd hls hk
    obtain ⟨B', c'', rfl⟩ := h4.form
    exact ⟨g, o, A', c', B', c'', e, h1, h2, h3.name, h4, h5⟩
  have HIH : Hid (∀ k (hk : k < ks.length), ∀ (Ak As : Option Addr) (ck cs : Nat) (w : World), ks[k].f.name.size ≤ maxLen → IntsR w (Lt w.heap.size) ks[k].f.src (.slice As ks[k].f.src.length cs) → BoxesS w (Lt w.heap.size) ks[k].kids (.slice Ak ks[k].kids.length ck) → Calls Tryz.prog 82 #[.agg (boxC ks[k].f (.slice Ak ks[k].kids.length ck) (.slice As ks[k].f.src.length cs))] w fun e w' => e = .returned (.bool (properB ks[k])) ∧ Below w.heap.size w w') := fun k hk => ih _ (List.getElem_mem hk)
  have HO : Hid (properB (.mk f ks) = ((lensOk f && (if f.kind = 1 then nameOk f.name && (decide (1 ≤ f.size ∧ f.size ≤ 1000) && (decide (ks.length = 0) && srcOk f))
    else if f.kind = 2 then f.name.toList.isEmpty && (decide (f.size = 0) && (decide (ks.length = 0) && srcOk f))
    else if f.kind = 3 then f.name.toList.isEmpty && (decide (f.size = 0) && srcOk f) else false)) && propersB ks)) := by show _ = _; rw [properB, ownB]
  have HIN0 : Hid (∀ k (hk : k < 5), W1.cell? ⟨W0.heap.size, k, none⟩ = some (.int .i64 ([f.w, f.h, f.d, f.x, f.y][k]'(by simpa using hk)))) := fun k hk => by
    have h := hbx1 k (.int .i64 ([f.w, f.h, f.d, f.x, f.y][k]'(by simpa using hk))) (by
      match k, hk with
      | 0, _ => rfl
      | 1, _ => rfl
      | 2, _ => rfl
      | 3, _ => rfl
      | 4, _ => rfl)
    rwa [Nat.zero_add] at h
  have n0 := (HCB.out W1 (Below.refl _ _)).1 0 _ rfl
  have n1 := (HCB.out W1 (Below.refl _ _)).1 1 _ rfl
  have n2 := (HCB.out W1 (Below.refl _ _)).1 2 _ rfl
  have n3 := (HCB.out W1 (Below.refl _ _)).1 3 _ rfl
  have n4 := (HCB.out W1 (Below.refl _ _)).1 4 _ rfl
  have n5 := (HCB.out W1 (Below.refl _ _)).1 5 _ rfl
  have n6 := (HCB.out W1 (Below.refl _ _)).1 6 _ rfl
  have n7 := (HCB.out W1 (Below.refl _ _)).1 7 _ rfl
  have n8 := (HCB.out W1 (Below.refl _ _)).1 8 _ rfl
  have n9 := (HCB.out W1 (Below.refl _ _)).1 9 _ rfl
  have n10 := (HCB.out W1 (Below.refl _ _)).1 10 _ rfl
  simp only [Nat.zero_add] at n0 n1 n2 n3 n4 n5 n6 n7 n8 n9 n10
  have q3 := hbx0 3 _ rfl
  have q4 := hbx0 4 _ rfl
  have q5 := hbx0 5 _ rfl
  have q6 := hbx0 6 _ rfl
  have q7 := hbx0 7 _ rfl
  simp only [Nat.zero_add] at q3 q4 q5 q6 q7
  have HLK : Hid (lensOk f = [f.w, f.h, f.d, f.x, f.y].all lenOk) := rfl
  generalize properB (.mk f ks) = R at *
  generalize srcOk f = sb at *
  generalize lensOk f = lb at *
  obtain ⟨kind, name, size, bw, bh, bd, bx, by_, of_, src⟩ := f
  simp only [boxC] at *
  clear ih hks hsrc hname hb0 hb01 hb1 hbx0 hbx1 hz0 hz1
  cases lb with
  | false =>
    have HF : Hid (R = false) := by show _ = _; rw [HO.out]; simp
    clear HO HSC HN HIH HKID
    go_enter Tryz.func82, Tryz.ntmps82
    go_wp2_with fail
    clear hW0 hW1
    go_loop [4] (fun i => ∃ k : Nat, k ≤ 5 ∧ i = .int .i64 k ∧ ([bw, bh, bd, bx, by_].drop k).all lenOk = false) (fun i => 5 - (intOf i).toNat)
    case atStart => exact ⟨0, Nat.zero_le _, rfl, HLK.out.symm⟩
    case round =>
      obtain ⟨k, hk, rfl, hrest⟩ := hrel
      rcases Nat.lt_or_ge k 5 with hlt | hge
      · have hxc := HIN0.out k hlt
        have HD : Hid (([bw, bh, bd, bx, by_].drop k).all lenOk = (lenOk ([bw, bh, bd, bx, by_][k]'(by simpa using hlt)) && ([bw, bh, bd, bx, by_].drop (k + 1)).all lenOk)) := by show _ = _; rw [List.drop_eq_getElem_cons (by simpa using hlt), List.all_cons]
        have HR := hid hrest
        generalize [bw, bh, bd, bx, by_][k]'(by simpa using hlt) = x at *
        have i5 : decide ((k : Int) < 5) = true := by rw [decide_eq_true_eq]; omega
        have i6 : (0 : Int) ≤ (k : Int) := by omega
        have i7 : (k : Int) < 5 := by omega
        clear hrest
        by_cases hx1 : x < -1073741824
        · have d1 : decide (x < -1073741824) = true := decide_eq_true hx1
          go_wp2_with fail
          go_ret
          exact ⟨by rw [HF.out]; rfl, HBW1.out⟩
        · have d1 : decide (x < -1073741824) = false := decide_eq_false hx1
          by_cases hx2 : 1073741824 < x
          · have d2 : decide (1073741824 < x) = true := decide_eq_true hx2
            go_wp2_with fail
            go_ret
            exact ⟨by rw [HF.out]; rfl, HBW1.out⟩
          · have d2 : decide (1073741824 < x) = false := decide_eq_false hx2
            have HR2 : Hid (([bw, bh, bd, bx, by_].drop (k + 1)).all lenOk = false) := by show _ = _; rw [← HR.out, HD.out, lenOk, decide_eq_true (by omega), Bool.true_and]
            go_wp2_with fail
            go_round
            case rel => exact ⟨k + 1, by omega, by go_num, HR2.out⟩
            case measure => simp [intOf]; omega
      · exfalso
        rw [List.drop_of_length_le (by simpa using hge)] at hrest
        cases hrest
  | true =>
    have HIN : Hid (∀ k (hk : k < 5), ∃ x : Int, -1073741824 ≤ x ∧ x ≤ 1073741824 ∧ W1.cell? ⟨W0.heap.size, k, none⟩ = some (.int .i64 x)) := fun k hk => by
      have h1 := HLK.out.symm
      rw [List.all_eq_true] at h1
      have h2 := h1 ([bw, bh, bd, bx, by_][k]'(by simpa using hk)) (List.getElem_mem _)
      simp only [lenOk, decide_eq_true_eq] at h2
      exact ⟨_, h2.1, h2.2, HIN0.out k hk⟩
    clear HIN0 HLK
    rw [Bool.true_and] at HO
    by_cases k1 : kind = 1
    · subst k1
      rw [if_pos rfl] at HO
      cases hnb : nameOk name with
      | false =>
        rw [hnb] at HN HO
        clear hnb HIH HKID HSC
        have HF : Hid (R = false) := by show _ = _; rw [HO.out]; simp
        try clear s1
        try clear s2
        try clear s3
        try clear s1'
        go_enter Tryz.func82, Tryz.ntmps82
        go_wp2_with fail
        clear hW0 hW1
        go_loop [4] (fun i => ∃ k : Nat, k ≤ 5 ∧ i = .int .i64 k) (fun i => 5 - (intOf i).toNat)
        case atStart => exact ⟨0, Nat.zero_le _, rfl⟩
        case round =>
          obtain ⟨k, hk, rfl⟩ := hrel
          rcases Nat.lt_or_ge k 5 with hlt | hge
          · obtain ⟨x, hx1, hx2, hxc⟩ := HIN.out k hlt
            have d1 : decide (x < -1073741824) = false := by simp; omega
            have d2 : decide (1073741824 < x) = false := by simp; omega
            have i5 : decide ((k : Int) < 5) = true := by rw [decide_eq_true_eq]; omega
            have i6 : (0 : Int) ≤ (k : Int) := by omega
            have i7 : (k : Int) < 5 := by omega
            go_wp2_with fail
            go_round
            case rel => exact ⟨k + 1, by omega, by go_num⟩
            case measure => simp [intOf]; omega
          · have i5 : decide ((k : Int) < 5) = false := by rw [decide_eq_false_iff_not]; omega
            clear hge hk
            go_wp2_with fail
            refine (HN.out _).mono ?_
            rintro e w1 ⟨rfl, rfl⟩
            go_wp2_with fail
            go_ret
            exact ⟨by rw [HF.out]; rfl, HBW1.out⟩
      | true =>
        rw [hnb] at HN HO
        clear hnb
        by_cases s1 : size < 1
        · have d3 : decide (size < 1) = true := decide_eq_true s1
          have s1' : ¬ (1 ≤ size ∧ size ≤ 1000) := by omega
          clear HIH HKID HSC
          have HF : Hid (R = false) := by show _ = _; rw [HO.out]; rw [decide_eq_false s1']; simp
          try clear s1
          try clear s2
          try clear s3
          try clear s1'
          go_enter Tryz.func82, Tryz.ntmps82
          go_wp2_with fail
          clear hW0 hW1
          go_loop [4] (fun i => ∃ k : Nat, k ≤ 5 ∧ i = .int .i64 k) (fun i => 5 - (intOf i).toNat)
          case atStart => exact ⟨0, Nat.zero_le _, rfl⟩
          case round =>
            obtain ⟨k, hk, rfl⟩ := hrel
            rcases Nat.lt_or_ge k 5 with hlt | hge
            · obtain ⟨x, hx1, hx2, hxc⟩ := HIN.out k hlt
              have d1 : decide (x < -1073741824) = false := by simp; omega
              have d2 : decide (1073741824 < x) = false := by simp; omega
              have i5 : decide ((k : Int) < 5) = true := by rw [decide_eq_true_eq]; omega
              have i6 : (0 : Int) ≤ (k : Int) := by omega
              have i7 : (k : Int) < 5 := by omega
              go_wp2_with fail
              go_round
              case rel => exact ⟨k + 1, by omega, by go_num⟩
              case measure => simp [intOf]; omega
            · have i5 : decide ((k : Int) < 5) = false := by rw [decide_eq_false_iff_not]; omega
              clear hge hk
              go_wp2_with fail
              refine (HN.out _).mono ?_
              rintro e w1 ⟨rfl, rfl⟩
              go_wp2_with fail
              go_ret
              exact ⟨by rw [HF.out]; rfl, HBW1.out⟩
        · have d3 : decide (size < 1) = false := decide_eq_false s1
          by_cases s2 : 1000 < size
          · have d4 : decide (1000 < size) = true := decide_eq_true s2
            have s1' : ¬ (1 ≤ size ∧ size ≤ 1000) := by omega
            clear HIH HKID HSC
            have HF : Hid (R = false) := by show _ = _; rw [HO.out]; rw [decide_eq_false s1']; simp
            try clear s1
            try clear s2
            try clear s3
            try clear s1'
            go_enter Tryz.func82, Tryz.ntmps82
            go_wp2_with fail
            clear hW0 hW1
            go_loop [4] (fun i => ∃ k : Nat, k ≤ 5 ∧ i = .int .i64 k) (fun i => 5 - (intOf i).toNat)
            case atStart => exact ⟨0, Nat.zero_le _, rfl⟩
            case round =>
              obtain ⟨k, hk, rfl⟩ := hrel
              rcases Nat.lt_or_ge k 5 with hlt | hge
              · obtain ⟨x, hx1, hx2, hxc⟩ := HIN.out k hlt
                have d1 : decide (x < -1073741824) = false := by simp; omega
                have d2 : decide (1073741824 < x) = false := by simp; omega
                have i5 : decide ((k : Int) < 5) = true := by rw [decide_eq_true_eq]; omega
                have i6 : (0 : Int) ≤ (k : Int) := by omega
                have i7 : (k : Int) < 5 := by omega
                go_wp2_with fail
                go_round
                case rel => exact ⟨k + 1, by omega, by go_num⟩
                case measure => simp [intOf]; omega
              · have i5 : decide ((k : Int) < 5) = false := by rw [decide_eq_false_iff_not]; omega
                clear hge hk
                go_wp2_with fail
                refine (HN.out _).mono ?_
                rintro e w1 ⟨rfl, rfl⟩
                go_wp2_with fail
                go_ret
                exact ⟨by rw [HF.out]; rfl, HBW1.out⟩
          · have d4 : decide (1000 < size) = false := decide_eq_false s2
            by_cases s3 : ks.length = 0
            · have d5 : decide ((0 : Int) < (ks.length : Int)) = false := decide_eq_false (by omega)
              have d6 : decide (0 < ks.length) = false := decide_eq_false (by omega)
              have s1' : (1 ≤ size ∧ size ≤ 1000) := by omega
              have HG : Hid (R = (sb && propersB ks)) := by show _ = _; rw [HO.out]; rw [decide_eq_true s1', decide_eq_true s3]; simp
              try clear s1
              try clear s2
              try clear s3
              try clear s1'
              go_enter Tryz.func82, Tryz.ntmps82
              go_wp2_with fail
              clear hW0 hW1
              go_loop [4] (fun i => ∃ k : Nat, k ≤ 5 ∧ i = .int .i64 k) (fun i => 5 - (intOf i).toNat)
              case atStart => exact ⟨0, Nat.zero_le _, rfl⟩
              case round =>
                obtain ⟨k, hk, rfl⟩ := hrel
                rcases Nat.lt_or_ge k 5 with hlt | hge
                · obtain ⟨x, hx1, hx2, hxc⟩ := HIN.out k hlt
                  have d1 : decide (x < -1073741824) = false := by simp; omega
                  have d2 : decide (1073741824 < x) = false := by simp; omega
                  have i5 : decide ((k : Int) < 5) = true := by rw [decide_eq_true_eq]; omega
                  have i6 : (0 : Int) ≤ (k : Int) := by omega
                  have i7 : (k : Int) < 5 := by omega
                  go_wp2_with fail
                  go_round
                  case rel => exact ⟨k + 1, by omega, by go_num⟩
                  case measure => simp [intOf]; omega
                · have i5 : decide ((k : Int) < 5) = false := by rw [decide_eq_false_iff_not]; omega
                  clear hge hk
                  go_wp2_with fail
                  refine (HN.out _).mono ?_
                  rintro e w1 ⟨rfl, rfl⟩
                  go_wp2_with fail
                  go_loopw [5] (fun i wr => Below W1.heap.size W1 wr ∧ ∃ k : Nat, k ≤ ks.length ∧ i = .int .i64 k ∧ propersB (ks.drop k) = propersB ks) (fun i _ => ks.length - (intOf i).toNat)
                  case atStart => exact ⟨Below.refl _ _, 0, Nat.zero_le _, rfl, rfl⟩
                  case round =>
                    obtain ⟨hb, k, hk, rfl, hrest⟩ := hrel
                    have HT := hid hb
                    have HR := hid hrest
                    obtain ⟨hbx, hbw⟩ := HCB.out wr hb
                    have HBW := hid hbw
                    have n0 := hbx 0 _ rfl
                    have n1 := hbx 1 _ rfl
                    have n2 := hbx 2 _ rfl
                    have n3 := hbx 3 _ rfl
                    have n4 := hbx 4 _ rfl
                    have n5 := hbx 5 _ rfl
                    have n6 := hbx 6 _ rfl
                    have n7 := hbx 7 _ rfl
                    have n8 := hbx 8 _ rfl
                    have n9 := hbx 9 _ rfl
                    have n10 := hbx 10 _ rfl
                    simp only [Nat.zero_add] at n0 n1 n2 n3 n4 n5 n6 n7 n8 n9 n10
                    clear hb hrest hbx
                    rcases Nat.lt_or_ge k ks.length with hlt | hge
                    · obtain ⟨gk, ok, Ak', ck', Bk, ckk, hAk, hgk, h11, hnm, hsk, hkk⟩ := HKID.out k hlt
                      subst hAk
                      obtain ⟨c0, c1, c2, c3, c4, c5, c6, c7, c8, c9, c10⟩ := h11.keep (fun j => hbw.cell (p := ⟨gk, j, none⟩) hgk)
                      have CI := hid (HIH.out k hlt Ak' Bk ck' ckk wr hnm (hsk.below hbw hbw.size) (hkk.below hbw hbw.size))
                      have i5 : decide ((k : Int) < (ks.length : Int)) = true := by rw [decide_eq_true_eq]; omega
                      have i6 : (0 : Int) ≤ (k : Int) := by omega
                      have i7 : (k : Int) < (ks.length : Int) := by omega
                      have HD : Hid (propersB (ks.drop k) = (properB ks[k] && propersB (ks.drop (k + 1)))) := by show _ = _; rw [List.drop_eq_getElem_cons hlt, propersB]
                      clear h11 hnm hsk hkk hgk hbw
                      cases hp : properB ks[k] with
                      | false =>
                        rw [hp] at CI HD
                        have HF : Hid (R = false) := by show _ = _; rw [HG.out, ← HR.out, HD.out]; simp
                        clear hp
                        go_wp2_with fail
                        refine CI.out.mono ?_
                        rintro e w2 ⟨rfl, hb2⟩
                        have HB2 := hid (bCl HBW.out hb2)
                        clear hb2 n0 n1 n2 n3 n4 n5 n6 n7 n8 n9 n10 c0 c1 c2 c3 c4 c5 c6 c7 c8 c9 c10
                        go_wp2_with fail
                        go_ret
                        exact ⟨by rw [HF.out]; rfl, HB2.out⟩
                      | true =>
                        rw [hp] at CI HD
                        have HR2 : Hid (propersB (ks.drop (k + 1)) = propersB ks) := by show _ = _; rw [← HR.out, HD.out]; simp
                        clear hp
                        go_wp2_with fail
                        refine CI.out.mono ?_
                        rintro e w2 ⟨rfl, hb2⟩
                        have HT2 := hid (bCl HT.out hb2)
                        clear hb2 n0 n1 n2 n3 n4 n5 n6 n7 n8 n9 n10 c0 c1 c2 c3 c4 c5 c6 c7 c8 c9 c10
                        go_wp2_with fail
                        go_roundw
                        case rel => exact ⟨HT2.out, k + 1, by omega, by go_num, HR2.out⟩
                        case measure => simp [intOf]; omega
                    · have i5 : decide ((k : Int) < (ks.length : Int)) = false := by rw [decide_eq_false_iff_not]; omega
                      have HF : Hid (R = sb) := by show _ = _; rw [HG.out, ← HR.out, List.drop_of_length_le hge, propersB]; simp
                      clear hbw
                      go_wp2_with fail
                      refine (HSC.out _ HBW.out).mono ?_
                      rintro e w2 ⟨rfl, hb2⟩
                      have HB2 := hid (bCl HBW.out hb2)
                      clear hb2 n0 n1 n2 n3 n4 n5 n6 n7 n8 n9 n10
                      go_wp2_with fail
                      go_ret
                      exact ⟨by rw [HF.out]; rfl, HB2.out⟩
            · have d5 : decide ((0 : Int) < (ks.length : Int)) = true := decide_eq_true (by omega)
              have d6 : decide (0 < ks.length) = true := decide_eq_true (by omega)
              clear HIH HKID HSC
              have HF : Hid (R = false) := by show _ = _; rw [HO.out]; rw [decide_eq_false s3]; simp
              try clear s1
              try clear s2
              try clear s3
              try clear s1'
              go_enter Tryz.func82, Tryz.ntmps82
              go_wp2_with fail
              clear hW0 hW1
              go_loop [4] (fun i => ∃ k : Nat, k ≤ 5 ∧ i = .int .i64 k) (fun i => 5 - (intOf i).toNat)
              case atStart => exact ⟨0, Nat.zero_le _, rfl⟩
              case round =>
                obtain ⟨k, hk, rfl⟩ := hrel
                rcases Nat.lt_or_ge k 5 with hlt | hge
                · obtain ⟨x, hx1, hx2, hxc⟩ := HIN.out k hlt
                  have d1 : decide (x < -1073741824) = false := by simp; omega
                  have d2 : decide (1073741824 < x) = false := by simp; omega
                  have i5 : decide ((k : Int) < 5) = true := by rw [decide_eq_true_eq]; omega
                  have i6 : (0 : Int) ≤ (k : Int) := by omega
                  have i7 : (k : Int) < 5 := by omega
                  go_wp2_with fail
                  go_round
                  case rel => exact ⟨k + 1, by omega, by go_num⟩
                  case measure => simp [intOf]; omega
                · have i5 : decide ((k : Int) < 5) = false := by rw [decide_eq_false_iff_not]; omega
                  clear hge hk
                  go_wp2_with fail
                  refine (HN.out _).mono ?_
                  rintro e w1 ⟨rfl, rfl⟩
                  go_wp2_with fail
                  go_ret
                  exact ⟨by rw [HF.out]; rfl, HBW1.out⟩
    · have i1 : (kind == 1) = false := by simp [k1]
      rw [if_neg k1] at HO
      by_cases k2 : kind = 2
      · subst k2
        rw [if_pos rfl] at HO
        clear k1
        cases hnb : name.toList.isEmpty with
        | false =>
          have HO2 : Hid (R = false) := by show _ = _; rw [HO.out, hnb]; simp
          clear HIH HKID HSC HN
          go_enter Tryz.func82, Tryz.ntmps82
          go_wp2_with fail
          clear hW0 hW1
          go_loop [4] (fun i => ∃ k : Nat, k ≤ 5 ∧ i = .int .i64 k) (fun i => 5 - (intOf i).toNat)
          case atStart => exact ⟨0, Nat.zero_le _, rfl⟩
          case round =>
            obtain ⟨k, hk, rfl⟩ := hrel
            rcases Nat.lt_or_ge k 5 with hlt | hge
            · obtain ⟨x, hx1, hx2, hxc⟩ := HIN.out k hlt
              have d1 : decide (x < -1073741824) = false := by simp; omega
              have d2 : decide (1073741824 < x) = false := by simp; omega
              have i5 : decide ((k : Int) < 5) = true := by rw [decide_eq_true_eq]; omega
              have i6 : (0 : Int) ≤ (k : Int) := by omega
              have i7 : (k : Int) < 5 := by omega
              go_wp2_with fail
              go_round
              case rel => exact ⟨k + 1, by omega, by go_num⟩
              case measure => simp [intOf]; omega
            · have i5 : decide ((k : Int) < 5) = false := by rw [decide_eq_false_iff_not]; omega
              clear hge hk
              have HF := HO2
              go_wp2_with fail
              go_ret
              exact ⟨by rw [HF.out]; rfl, HBW1.out⟩
        | true =>
          rw [hnb] at HO
          by_cases s1 : size = 0
          · have d3 : (size == 0) = true := by simp [s1]
            have d3b : (size != 0) = false := by simp [s1]
            have d3c : decide (size = 0) = true := by simp [s1]
            by_cases s3 : ks.length = 0
            · have d5 : decide ((0 : Int) < (ks.length : Int)) = false := decide_eq_false (by omega)
              have d6 : decide (0 < ks.length) = false := decide_eq_false (by omega)
              have HG : Hid (R = (sb && propersB ks)) := by show _ = _; rw [HO.out]; rw [decide_eq_true s1, decide_eq_true s3]; simp
              try clear s1
              try clear s2
              try clear s3
              try clear s1'
              go_enter Tryz.func82, Tryz.ntmps82
              go_wp2_with fail
              clear hW0 hW1
              go_loop [4] (fun i => ∃ k : Nat, k ≤ 5 ∧ i = .int .i64 k) (fun i => 5 - (intOf i).toNat)
              case atStart => exact ⟨0, Nat.zero_le _, rfl⟩
              case round =>
                obtain ⟨k, hk, rfl⟩ := hrel
                rcases Nat.lt_or_ge k 5 with hlt | hge
                · obtain ⟨x, hx1, hx2, hxc⟩ := HIN.out k hlt
                  have d1 : decide (x < -1073741824) = false := by simp; omega
                  have d2 : decide (1073741824 < x) = false := by simp; omega
                  have i5 : decide ((k : Int) < 5) = true := by rw [decide_eq_true_eq]; omega
                  have i6 : (0 : Int) ≤ (k : Int) := by omega
                  have i7 : (k : Int) < 5 := by omega
                  go_wp2_with fail
                  go_round
                  case rel => exact ⟨k + 1, by omega, by go_num⟩
                  case measure => simp [intOf]; omega
                · have i5 : decide ((k : Int) < 5) = false := by rw [decide_eq_false_iff_not]; omega
                  clear hge hk
                  go_wp2_with fail
                  go_loopw [5] (fun i wr => Below W1.heap.size W1 wr ∧ ∃ k : Nat, k ≤ ks.length ∧ i = .int .i64 k ∧ propersB (ks.drop k) = propersB ks) (fun i _ => ks.length - (intOf i).toNat)
                  case atStart => exact ⟨Below.refl _ _, 0, Nat.zero_le _, rfl, rfl⟩
                  case round =>
                    obtain ⟨hb, k, hk, rfl, hrest⟩ := hrel
                    have HT := hid hb
                    have HR := hid hrest
                    obtain ⟨hbx, hbw⟩ := HCB.out wr hb
                    have HBW := hid hbw
                    have n0 := hbx 0 _ rfl
                    have n1 := hbx 1 _ rfl
                    have n2 := hbx 2 _ rfl
                    have n3 := hbx 3 _ rfl
                    have n4 := hbx 4 _ rfl
                    have n5 := hbx 5 _ rfl
                    have n6 := hbx 6 _ rfl
                    have n7 := hbx 7 _ rfl
                    have n8 := hbx 8 _ rfl
                    have n9 := hbx 9 _ rfl
                    have n10 := hbx 10 _ rfl
                    simp only [Nat.zero_add] at n0 n1 n2 n3 n4 n5 n6 n7 n8 n9 n10
                    clear hb hrest hbx
                    rcases Nat.lt_or_ge k ks.length with hlt | hge
                    · obtain ⟨gk, ok, Ak', ck', Bk, ckk, hAk, hgk, h11, hnm, hsk, hkk⟩ := HKID.out k hlt
                      subst hAk
                      obtain ⟨c0, c1, c2, c3, c4, c5, c6, c7, c8, c9, c10⟩ := h11.keep (fun j => hbw.cell (p := ⟨gk, j, none⟩) hgk)
                      have CI := hid (HIH.out k hlt Ak' Bk ck' ckk wr hnm (hsk.below hbw hbw.size) (hkk.below hbw hbw.size))
                      have i5 : decide ((k : Int) < (ks.length : Int)) = true := by rw [decide_eq_true_eq]; omega
                      have i6 : (0 : Int) ≤ (k : Int) := by omega
                      have i7 : (k : Int) < (ks.length : Int) := by omega
                      have HD : Hid (propersB (ks.drop k) = (properB ks[k] && propersB (ks.drop (k + 1)))) := by show _ = _; rw [List.drop_eq_getElem_cons hlt, propersB]
                      clear h11 hnm hsk hkk hgk hbw
                      cases hp : properB ks[k] with
                      | false =>
                        rw [hp] at CI HD
                        have HF : Hid (R = false) := by show _ = _; rw [HG.out, ← HR.out, HD.out]; simp
                        clear hp
                        go_wp2_with fail
                        refine CI.out.mono ?_
                        rintro e w2 ⟨rfl, hb2⟩
                        have HB2 := hid (bCl HBW.out hb2)
                        clear hb2 n0 n1 n2 n3 n4 n5 n6 n7 n8 n9 n10 c0 c1 c2 c3 c4 c5 c6 c7 c8 c9 c10
                        go_wp2_with fail
                        go_ret
                        exact ⟨by rw [HF.out]; rfl, HB2.out⟩
                      | true =>
                        rw [hp] at CI HD
                        have HR2 : Hid (propersB (ks.drop (k + 1)) = propersB ks) := by show _ = _; rw [← HR.out, HD.out]; simp
                        clear hp
                        go_wp2_with fail
                        refine CI.out.mono ?_
                        rintro e w2 ⟨rfl, hb2⟩
                        have HT2 := hid (bCl HT.out hb2)
                        clear hb2 n0 n1 n2 n3 n4 n5 n6 n7 n8 n9 n10 c0 c1 c2 c3 c4 c5 c6 c7 c8 c9 c10
                        go_wp2_with fail
                        go_roundw
                        case rel => exact ⟨HT2.out, k + 1, by omega, by go_num, HR2.out⟩
                        case measure => simp [intOf]; omega
                    · have i5 : decide ((k : Int) < (ks.length : Int)) = false := by rw [decide_eq_false_iff_not]; omega
                      have HF : Hid (R = sb) := by show _ = _; rw [HG.out, ← HR.out, List.drop_of_length_le hge, propersB]; simp
                      clear hbw
                      go_wp2_with fail
                      refine (HSC.out _ HBW.out).mono ?_
                      rintro e w2 ⟨rfl, hb2⟩
                      have HB2 := hid (bCl HBW.out hb2)
                      clear hb2 n0 n1 n2 n3 n4 n5 n6 n7 n8 n9 n10
                      go_wp2_with fail
                      go_ret
                      exact ⟨by rw [HF.out]; rfl, HB2.out⟩
            · have d5 : decide ((0 : Int) < (ks.length : Int)) = true := decide_eq_true (by omega)
              have d6 : decide (0 < ks.length) = true := decide_eq_true (by omega)
              clear HIH HKID HSC HN
              have HF : Hid (R = false) := by show _ = _; rw [HO.out]; rw [decide_eq_false s3]; simp
              try clear s1
              try clear s2
              try clear s3
              try clear s1'
              go_enter Tryz.func82, Tryz.ntmps82
              go_wp2_with fail
              clear hW0 hW1
              go_loop [4] (fun i => ∃ k : Nat, k ≤ 5 ∧ i = .int .i64 k) (fun i => 5 - (intOf i).toNat)
              case atStart => exact ⟨0, Nat.zero_le _, rfl⟩
              case round =>
                obtain ⟨k, hk, rfl⟩ := hrel
                rcases Nat.lt_or_ge k 5 with hlt | hge
                · obtain ⟨x, hx1, hx2, hxc⟩ := HIN.out k hlt
                  have d1 : decide (x < -1073741824) = false := by simp; omega
                  have d2 : decide (1073741824 < x) = false := by simp; omega
                  have i5 : decide ((k : Int) < 5) = true := by rw [decide_eq_true_eq]; omega
                  have i6 : (0 : Int) ≤ (k : Int) := by omega
                  have i7 : (k : Int) < 5 := by omega
                  go_wp2_with fail
                  go_round
                  case rel => exact ⟨k + 1, by omega, by go_num⟩
                  case measure => simp [intOf]; omega
                · have i5 : decide ((k : Int) < 5) = false := by rw [decide_eq_false_iff_not]; omega
                  clear hge hk
                  go_wp2_with fail
                  go_ret
                  exact ⟨by rw [HF.out]; rfl, HBW1.out⟩
          · have d3 : (size == 0) = false := by simp [s1]
            have d3b : (size != 0) = true := by simp [s1]
            have d3c : decide (size = 0) = false := by simp [s1]
            clear HIH HKID HSC HN
            have HF : Hid (R = false) := by show _ = _; rw [HO.out]; rw [decide_eq_false s1]; simp
            try clear s1
            try clear s2
            try clear s3
            try clear s1'
            go_enter Tryz.func82, Tryz.ntmps82
            go_wp2_with fail
            clear hW0 hW1
            go_loop [4] (fun i => ∃ k : Nat, k ≤ 5 ∧ i = .int .i64 k) (fun i => 5 - (intOf i).toNat)
            case atStart => exact ⟨0, Nat.zero_le _, rfl⟩
            case round =>
              obtain ⟨k, hk, rfl⟩ := hrel
              rcases Nat.lt_or_ge k 5 with hlt | hge
              · obtain ⟨x, hx1, hx2, hxc⟩ := HIN.out k hlt
                have d1 : decide (x < -1073741824) = false := by simp; omega
                have d2 : decide (1073741824 < x) = false := by simp; omega
                have i5 : decide ((k : Int) < 5) = true := by rw [decide_eq_true_eq]; omega
                have i6 : (0 : Int) ≤ (k : Int) := by omega
                have i7 : (k : Int) < 5 := by omega
                go_wp2_with fail
                go_round
                case rel => exact ⟨k + 1, by omega, by go_num⟩
                case measure => simp [intOf]; omega
              · have i5 : decide ((k : Int) < 5) = false := by rw [decide_eq_false_iff_not]; omega
                clear hge hk
                go_wp2_with fail
                go_ret
                exact ⟨by rw [HF.out]; rfl, HBW1.out⟩
      · have i2 : (kind == 2) = false := by simp [k2]
        rw [if_neg k2] at HO
        by_cases k3 : kind = 3
        · subst k3
          rw [if_pos rfl] at HO
          clear k1 k2
          cases hnb : name.toList.isEmpty with
          | false =>
            have HO2 : Hid (R = false) := by show _ = _; rw [HO.out, hnb]; simp
            clear HIH HKID HSC HN
            go_enter Tryz.func82, Tryz.ntmps82
            go_wp2_with fail
            clear hW0 hW1
            go_loop [4] (fun i => ∃ k : Nat, k ≤ 5 ∧ i = .int .i64 k) (fun i => 5 - (intOf i).toNat)
            case atStart => exact ⟨0, Nat.zero_le _, rfl⟩
            case round =>
              obtain ⟨k, hk, rfl⟩ := hrel
              rcases Nat.lt_or_ge k 5 with hlt | hge
              · obtain ⟨x, hx1, hx2, hxc⟩ := HIN.out k hlt
                have d1 : decide (x < -1073741824) = false := by simp; omega
                have d2 : decide (1073741824 < x) = false := by simp; omega
                have i5 : decide ((k : Int) < 5) = true := by rw [decide_eq_true_eq]; omega
                have i6 : (0 : Int) ≤ (k : Int) := by omega
                have i7 : (k : Int) < 5 := by omega
                go_wp2_with fail
                go_round
                case rel => exact ⟨k + 1, by omega, by go_num⟩
                case measure => simp [intOf]; omega
              · have i5 : decide ((k : Int) < 5) = false := by rw [decide_eq_false_iff_not]; omega
                clear hge hk
                have HF := HO2
                go_wp2_with fail
                go_ret
                exact ⟨by rw [HF.out]; rfl, HBW1.out⟩
          | true =>
            rw [hnb] at HO
            by_cases s1 : size = 0
            · have d3 : (size == 0) = true := by simp [s1]
              have d3b : (size != 0) = false := by simp [s1]
              have d3c : decide (size = 0) = true := by simp [s1]
              have HG : Hid (R = (sb && propersB ks)) := by show _ = _; rw [HO.out]; rw [decide_eq_true s1]; simp
              try clear s1
              try clear s2
              try clear s3
              try clear s1'
              go_enter Tryz.func82, Tryz.ntmps82
              go_wp2_with fail
              clear hW0 hW1
              go_loop [4] (fun i => ∃ k : Nat, k ≤ 5 ∧ i = .int .i64 k) (fun i => 5 - (intOf i).toNat)
              case atStart => exact ⟨0, Nat.zero_le _, rfl⟩
              case round =>
                obtain ⟨k, hk, rfl⟩ := hrel
                rcases Nat.lt_or_ge k 5 with hlt | hge
                · obtain ⟨x, hx1, hx2, hxc⟩ := HIN.out k hlt
                  have d1 : decide (x < -1073741824) = false := by simp; omega
                  have d2 : decide (1073741824 < x) = false := by simp; omega
                  have i5 : decide ((k : Int) < 5) = true := by rw [decide_eq_true_eq]; omega
                  have i6 : (0 : Int) ≤ (k : Int) := by omega
                  have i7 : (k : Int) < 5 := by omega
                  go_wp2_with fail
                  go_round
                  case rel => exact ⟨k + 1, by omega, by go_num⟩
                  case measure => simp [intOf]; omega
                · have i5 : decide ((k : Int) < 5) = false := by rw [decide_eq_false_iff_not]; omega
                  clear hge hk
                  go_wp2_with fail
                  go_loopw [5] (fun i wr => Below W1.heap.size W1 wr ∧ ∃ k : Nat, k ≤ ks.length ∧ i = .int .i64 k ∧ propersB (ks.drop k) = propersB ks) (fun i _ => ks.length - (intOf i).toNat)
                  case atStart => exact ⟨Below.refl _ _, 0, Nat.zero_le _, rfl, rfl⟩
                  case round =>
                    obtain ⟨hb, k, hk, rfl, hrest⟩ := hrel
                    have HT := hid hb
                    have HR := hid hrest
                    obtain ⟨hbx, hbw⟩ := HCB.out wr hb
                    have HBW := hid hbw
                    have n0 := hbx 0 _ rfl
                    have n1 := hbx 1 _ rfl
                    have n2 := hbx 2 _ rfl
                    have n3 := hbx 3 _ rfl
                    have n4 := hbx 4 _ rfl
                    have n5 := hbx 5 _ rfl
                    have n6 := hbx 6 _ rfl
                    have n7 := hbx 7 _ rfl
                    have n8 := hbx 8 _ rfl
                    have n9 := hbx 9 _ rfl
                    have n10 := hbx 10 _ rfl
                    simp only [Nat.zero_add] at n0 n1 n2 n3 n4 n5 n6 n7 n8 n9 n10
                    clear hb hrest hbx
                    rcases Nat.lt_or_ge k ks.length with hlt | hge
                    · obtain ⟨gk, ok, Ak', ck', Bk, ckk, hAk, hgk, h11, hnm, hsk, hkk⟩ := HKID.out k hlt
                      subst hAk
                      obtain ⟨c0, c1, c2, c3, c4, c5, c6, c7, c8, c9, c10⟩ := h11.keep (fun j => hbw.cell (p := ⟨gk, j, none⟩) hgk)
                      have CI := hid (HIH.out k hlt Ak' Bk ck' ckk wr hnm (hsk.below hbw hbw.size) (hkk.below hbw hbw.size))
                      have i5 : decide ((k : Int) < (ks.length : Int)) = true := by rw [decide_eq_true_eq]; omega
                      have i6 : (0 : Int) ≤ (k : Int) := by omega
                      have i7 : (k : Int) < (ks.length : Int) := by omega
                      have HD : Hid (propersB (ks.drop k) = (properB ks[k] && propersB (ks.drop (k + 1)))) := by show _ = _; rw [List.drop_eq_getElem_cons hlt, propersB]
                      clear h11 hnm hsk hkk hgk hbw
                      cases hp : properB ks[k] with
                      | false =>
                        rw [hp] at CI HD
                        have HF : Hid (R = false) := by show _ = _; rw [HG.out, ← HR.out, HD.out]; simp
                        clear hp
                        go_wp2_with fail
                        refine CI.out.mono ?_
                        rintro e w2 ⟨rfl, hb2⟩
                        have HB2 := hid (bCl HBW.out hb2)
                        clear hb2 n0 n1 n2 n3 n4 n5 n6 n7 n8 n9 n10 c0 c1 c2 c3 c4 c5 c6 c7 c8 c9 c10
                        go_wp2_with fail
                        go_ret
                        exact ⟨by rw [HF.out]; rfl, HB2.out⟩
                      | true =>
                        rw [hp] at CI HD
                        have HR2 : Hid (propersB (ks.drop (k + 1)) = propersB ks) := by show _ = _; rw [← HR.out, HD.out]; simp
                        clear hp
                        go_wp2_with fail
                        refine CI.out.mono ?_
                        rintro e w2 ⟨rfl, hb2⟩
                        have HT2 := hid (bCl HT.out hb2)
                        clear hb2 n0 n1 n2 n3 n4 n5 n6 n7 n8 n9 n10 c0 c1 c2 c3 c4 c5 c6 c7 c8 c9 c10
                        go_wp2_with fail
                        go_roundw
                        case rel => exact ⟨HT2.out, k + 1, by omega, by go_num, HR2.out⟩
                        case measure => simp [intOf]; omega
                    · have i5 : decide ((k : Int) < (ks.length : Int)) = false := by rw [decide_eq_false_iff_not]; omega
                      have HF : Hid (R = sb) := by show _ = _; rw [HG.out, ← HR.out, List.drop_of_length_le hge, propersB]; simp
                      clear hbw
                      go_wp2_with fail
                      refine (HSC.out _ HBW.out).mono ?_
                      rintro e w2 ⟨rfl, hb2⟩
                      have HB2 := hid (bCl HBW.out hb2)
                      clear hb2 n0 n1 n2 n3 n4 n5 n6 n7 n8 n9 n10
                      go_wp2_with fail
                      go_ret
                      exact ⟨by rw [HF.out]; rfl, HB2.out⟩
            · have d3 : (size == 0) = false := by simp [s1]
              have d3b : (size != 0) = true := by simp [s1]
              have d3c : decide (size = 0) = false := by simp [s1]
              clear HIH HKID HSC HN
              have HF : Hid (R = false) := by show _ = _; rw [HO.out]; rw [decide_eq_false s1]; simp
              try clear s1
              try clear s2
              try clear s3
              try clear s1'
              go_enter Tryz.func82, Tryz.ntmps82
              go_wp2_with fail
              clear hW0 hW1
              go_loop [4] (fun i => ∃ k : Nat, k ≤ 5 ∧ i = .int .i64 k) (fun i => 5 - (intOf i).toNat)
              case atStart => exact ⟨0, Nat.zero_le _, rfl⟩
              case round =>
                obtain ⟨k, hk, rfl⟩ := hrel
                rcases Nat.lt_or_ge k 5 with hlt | hge
                · obtain ⟨x, hx1, hx2, hxc⟩ := HIN.out k hlt
                  have d1 : decide (x < -1073741824) = false := by simp; omega
                  have d2 : decide (1073741824 < x) = false := by simp; omega
                  have i5 : decide ((k : Int) < 5) = true := by rw [decide_eq_true_eq]; omega
                  have i6 : (0 : Int) ≤ (k : Int) := by omega
                  have i7 : (k : Int) < 5 := by omega
                  go_wp2_with fail
                  go_round
                  case rel => exact ⟨k + 1, by omega, by go_num⟩
                  case measure => simp [intOf]; omega
                · have i5 : decide ((k : Int) < 5) = false := by rw [decide_eq_false_iff_not]; omega
                  clear hge hk
                  go_wp2_with fail
                  go_ret
                  exact ⟨by rw [HF.out]; rfl, HBW1.out⟩
        · have i3 : (kind == 3) = false := by simp [k3]
          rw [if_neg k3] at HO
          clear HIH HKID HSC HN k1 k2 k3
          have HF : Hid (R = false) := by show _ = _; rw [HO.out]; simp
          try clear s1
          try clear s2
          try clear s3
          try clear s1'
          go_enter Tryz.func82, Tryz.ntmps82
          go_wp2_with fail
          clear hW0 hW1
          go_loop [4] (fun i => ∃ k : Nat, k ≤ 5 ∧ i = .int .i64 k) (fun i => 5 - (intOf i).toNat)
          case atStart => exact ⟨0, Nat.zero_le _, rfl⟩
          case round =>
            obtain ⟨k, hk, rfl⟩ := hrel
            rcases Nat.lt_or_ge k 5 with hlt | hge
            · obtain ⟨x, hx1, hx2, hxc⟩ := HIN.out k hlt
              have d1 : decide (x < -1073741824) = false := by simp; omega
              have d2 : decide (1073741824 < x) = false := by simp; omega
              have i5 : decide ((k : Int) < 5) = true := by rw [decide_eq_true_eq]; omega
              have i6 : (0 : Int) ≤ (k : Int) := by omega
              have i7 : (k : Int) < 5 := by omega
              go_wp2_with fail
              go_round
              case rel => exact ⟨k + 1, by omega, by go_num⟩
              case measure => simp [intOf]; omega
            · have i5 : decide ((k : Int) < 5) = false := by rw [decide_eq_false_iff_not]; omega
              clear hge hk
              go_wp2_with fail
              go_ret
              exact ⟨by rw [HF.out]; rfl, HBW1.out⟩
set_option maxHeartbeats 4000000 in
theorem bvalid28_any (b : Bx) (Ak As : Option Addr) (ck cs : Nat) (w : World) (hname : b.f.name.size ≤ maxLen) (hsrc : IntsR w (Lt w.heap.size) b.f.src (.slice As b.f.src.length cs)) (hks : BoxesS w (Lt w.heap.size) b.kids (.slice Ak b.kids.length ck)) (hc : cntB b ≤ 1000000) :
    Calls Tryz.prog 41 #[.agg (boxC b.f (.slice Ak b.kids.length ck) (.slice As b.f.src.length cs))] w fun e w' => e = .returned (.bool (validB b)) ∧ Below w.heap.size w w' := by
  have C1 : Hid (∀ W, Below w.heap.size w W → Calls Tryz.prog 82 #[.agg (boxC b.f (.slice Ak b.kids.length ck) (.slice As b.f.src.length cs))] W fun e w' => e = .returned (.bool (properB b)) ∧ Below W.heap.size W w') := fun W hW => proper28_any b Ak As ck cs W hname (hsrc.below hW hW.size) (hks.below hW hW.size)
  have C2 : Hid (∀ W, Below w.heap.size w W → Calls Tryz.prog 83 #[.agg (boxC b.f (.slice Ak b.kids.length ck) (.slice As b.f.src.length cs))] W fun e w' => e = .returned (.int .i64 (cntB b)) ∧ Below W.heap.size W w') := fun W hW => count28_any b Ak As ck cs W (hks.below hW hW.size) hc
  have C3 : Hid (∀ W, Below w.heap.size w W → Calls Tryz.prog 84 #[.agg (boxC b.f (.slice Ak b.kids.length ck) (.slice As b.f.src.length cs))] W fun e w' => e = .returned (.int .i64 (nestB b)) ∧ Below W.heap.size W w') := fun W hW => nested28_any b Ak As ck cs W (hks.below hW hW.size) hc
  obtain ⟨W0, hW0⟩ : ∃ W0, w.alloc (Obj.cells (boxC b.f (.slice Ak b.kids.length ck) (.slice As b.f.src.length cs)) 28) = W0 := ⟨_, rfl⟩
  have hb0 : Below w.heap.size w W0 := by rw [← hW0]; exact bNew _ _
  have hbx0 : BoxL W0 w.heap.size 0 (boxL b.f (.slice Ak b.kids.length ck) (.slice As b.f.src.length cs)) := by rw [← hW0]; exact BoxL.new _ _ _ _ rfl _ rfl
  have hz0 : W0.heap.size = w.heap.size + 1 := by rw [← hW0]; simp
  have HCB : Hid (∀ W, Below W0.heap.size W0 W → BoxL W w.heap.size 0 (boxL b.f (.slice Ak b.kids.length ck) (.slice As b.f.src.length cs)) ∧ Below w.heap.size w W) := fun W hW => ⟨hbx0.below hW (by omega), hb0.trans (hW.mono hb0.size)⟩
  have HV : Hid (validB b = (properB b && decide (cntB b ≤ 20000) && decide (nestB b ≤ 100))) := rfl
  generalize validB b = R at *
  generalize properB b = b1 at *
  generalize cntB b = n1 at *
  generalize nestB b = n2 at *
  clear hname hsrc hks hb0 hbx0 hz0
  cases b1 with
  | false =>
    have HF : Hid (R = false) := by show _ = _; rw [HV.out]; simp
    obtain ⟨hbx, hbw⟩ := HCB.out W0 (Below.refl _ _)
    have n0x := hbx 0 _ rfl
    have n1x := hbx 1 _ rfl
    have n2x := hbx 2 _ rfl
    have n3x := hbx 3 _ rfl
    have n4x := hbx 4 _ rfl
    have n5x := hbx 5 _ rfl
    have n6x := hbx 6 _ rfl
    have n7x := hbx 7 _ rfl
    have n8x := hbx 8 _ rfl
    have n9x := hbx 9 _ rfl
    have n10x := hbx 10 _ rfl
    simp only [Nat.zero_add] at n0x n1x n2x n3x n4x n5x n6x n7x n8x n9x n10x
    have HBW_W0 := hid hbw
    clear hbx hbw
    go_enter Tryz.func41, Tryz.ntmps41
    go_wp2_with fail
    clear hW0
    refine (C1.out _ HBW_W0.out).mono ?_
    rintro e w1 ⟨rfl, hb⟩
    have HT1 := hid hb
    clear hb
    clear n0x n1x n2x n3x n4x n5x n6x n7x n8x n9x n10x
    obtain ⟨hbx, hbw⟩ := HCB.out w1 HT1.out
    have n0x := hbx 0 _ rfl
    have n1x := hbx 1 _ rfl
    have n2x := hbx 2 _ rfl
    have n3x := hbx 3 _ rfl
    have n4x := hbx 4 _ rfl
    have n5x := hbx 5 _ rfl
    have n6x := hbx 6 _ rfl
    have n7x := hbx 7 _ rfl
    have n8x := hbx 8 _ rfl
    have n9x := hbx 9 _ rfl
    have n10x := hbx 10 _ rfl
    simp only [Nat.zero_add] at n0x n1x n2x n3x n4x n5x n6x n7x n8x n9x n10x
    have HBW_w1 := hid hbw
    clear hbx hbw
    go_wp2_with fail
    go_ret
    exact ⟨by rw [HF.out]; rfl, HBW_w1.out⟩
  | true =>
    by_cases h1 : n1 ≤ 20000
    · have d1 : decide ((n1 : Int) ≤ 20000) = true := by simp; omega
      have HF : Hid (R = decide ((n2 : Int) ≤ 100)) := by show _ = _; rw [HV.out, decide_eq_true h1]; simp; omega
      obtain ⟨hbx, hbw⟩ := HCB.out W0 (Below.refl _ _)
      have n0x := hbx 0 _ rfl
      have n1x := hbx 1 _ rfl
      have n2x := hbx 2 _ rfl
      have n3x := hbx 3 _ rfl
      have n4x := hbx 4 _ rfl
      have n5x := hbx 5 _ rfl
      have n6x := hbx 6 _ rfl
      have n7x := hbx 7 _ rfl
      have n8x := hbx 8 _ rfl
      have n9x := hbx 9 _ rfl
      have n10x := hbx 10 _ rfl
      simp only [Nat.zero_add] at n0x n1x n2x n3x n4x n5x n6x n7x n8x n9x n10x
      have HBW_W0 := hid hbw
      clear hbx hbw
      go_enter Tryz.func41, Tryz.ntmps41
      go_wp2_with fail
      clear hW0
      refine (C1.out _ HBW_W0.out).mono ?_
      rintro e w1 ⟨rfl, hb⟩
      have HT1 := hid hb
      clear hb
      clear n0x n1x n2x n3x n4x n5x n6x n7x n8x n9x n10x
      obtain ⟨hbx, hbw⟩ := HCB.out w1 HT1.out
      have n0x := hbx 0 _ rfl
      have n1x := hbx 1 _ rfl
      have n2x := hbx 2 _ rfl
      have n3x := hbx 3 _ rfl
      have n4x := hbx 4 _ rfl
      have n5x := hbx 5 _ rfl
      have n6x := hbx 6 _ rfl
      have n7x := hbx 7 _ rfl
      have n8x := hbx 8 _ rfl
      have n9x := hbx 9 _ rfl
      have n10x := hbx 10 _ rfl
      simp only [Nat.zero_add] at n0x n1x n2x n3x n4x n5x n6x n7x n8x n9x n10x
      have HBW_w1 := hid hbw
      clear hbx hbw
      go_wp2_with fail
      refine (C2.out _ HBW_w1.out).mono ?_
      rintro e w2 ⟨rfl, hb⟩
      have HT2 := hid (bCl HT1.out hb)
      clear hb
      clear n0x n1x n2x n3x n4x n5x n6x n7x n8x n9x n10x
      obtain ⟨hbx, hbw⟩ := HCB.out w2 HT2.out
      have n0x := hbx 0 _ rfl
      have n1x := hbx 1 _ rfl
      have n2x := hbx 2 _ rfl
      have n3x := hbx 3 _ rfl
      have n4x := hbx 4 _ rfl
      have n5x := hbx 5 _ rfl
      have n6x := hbx 6 _ rfl
      have n7x := hbx 7 _ rfl
      have n8x := hbx 8 _ rfl
      have n9x := hbx 9 _ rfl
      have n10x := hbx 10 _ rfl
      simp only [Nat.zero_add] at n0x n1x n2x n3x n4x n5x n6x n7x n8x n9x n10x
      have HBW_w2 := hid hbw
      clear hbx hbw
      go_wp2_with fail
      refine (C3.out _ HBW_w2.out).mono ?_
      rintro e w3 ⟨rfl, hb⟩
      have HT3 := hid (bCl HT2.out hb)
      clear hb
      clear n0x n1x n2x n3x n4x n5x n6x n7x n8x n9x n10x
      obtain ⟨hbx, hbw⟩ := HCB.out w3 HT3.out
      have n0x := hbx 0 _ rfl
      have n1x := hbx 1 _ rfl
      have n2x := hbx 2 _ rfl
      have n3x := hbx 3 _ rfl
      have n4x := hbx 4 _ rfl
      have n5x := hbx 5 _ rfl
      have n6x := hbx 6 _ rfl
      have n7x := hbx 7 _ rfl
      have n8x := hbx 8 _ rfl
      have n9x := hbx 9 _ rfl
      have n10x := hbx 10 _ rfl
      simp only [Nat.zero_add] at n0x n1x n2x n3x n4x n5x n6x n7x n8x n9x n10x
      have HBW_w3 := hid hbw
      clear hbx hbw
      go_wp2_with fail
      go_ret
      exact ⟨by rw [HF.out]; rfl, HBW_w3.out⟩
    · have d1 : decide ((n1 : Int) ≤ 20000) = false := by simp; omega
      have HF : Hid (R = false) := by show _ = _; rw [HV.out, decide_eq_false h1]; simp
      obtain ⟨hbx, hbw⟩ := HCB.out W0 (Below.refl _ _)
      have n0x := hbx 0 _ rfl
      have n1x := hbx 1 _ rfl
      have n2x := hbx 2 _ rfl
      have n3x := hbx 3 _ rfl
      have n4x := hbx 4 _ rfl
      have n5x := hbx 5 _ rfl
      have n6x := hbx 6 _ rfl
      have n7x := hbx 7 _ rfl
      have n8x := hbx 8 _ rfl
      have n9x := hbx 9 _ rfl
      have n10x := hbx 10 _ rfl
      simp only [Nat.zero_add] at n0x n1x n2x n3x n4x n5x n6x n7x n8x n9x n10x
      have HBW_W0 := hid hbw
      clear hbx hbw
      go_enter Tryz.func41, Tryz.ntmps41
      go_wp2_with fail
      clear hW0
      refine (C1.out _ HBW_W0.out).mono ?_
      rintro e w1 ⟨rfl, hb⟩
      have HT1 := hid hb
      clear hb
      clear n0x n1x n2x n3x n4x n5x n6x n7x n8x n9x n10x
      obtain ⟨hbx, hbw⟩ := HCB.out w1 HT1.out
      have n0x := hbx 0 _ rfl
      have n1x := hbx 1 _ rfl
      have n2x := hbx 2 _ rfl
      have n3x := hbx 3 _ rfl
      have n4x := hbx 4 _ rfl
      have n5x := hbx 5 _ rfl
      have n6x := hbx 6 _ rfl
      have n7x := hbx 7 _ rfl
      have n8x := hbx 8 _ rfl
      have n9x := hbx 9 _ rfl
      have n10x := hbx 10 _ rfl
      simp only [Nat.zero_add] at n0x n1x n2x n3x n4x n5x n6x n7x n8x n9x n10x
      have HBW_w1 := hid hbw
      clear hbx hbw
      go_wp2_with fail
      refine (C2.out _ HBW_w1.out).mono ?_
      rintro e w2 ⟨rfl, hb⟩
      have HT2 := hid (bCl HT1.out hb)
      clear hb
      clear n0x n1x n2x n3x n4x n5x n6x n7x n8x n9x n10x
      obtain ⟨hbx, hbw⟩ := HCB.out w2 HT2.out
      have n0x := hbx 0 _ rfl
      have n1x := hbx 1 _ rfl
      have n2x := hbx 2 _ rfl
      have n3x := hbx 3 _ rfl
      have n4x := hbx 4 _ rfl
      have n5x := hbx 5 _ rfl
      have n6x := hbx 6 _ rfl
      have n7x := hbx 7 _ rfl
      have n8x := hbx 8 _ rfl
      have n9x := hbx 9 _ rfl
      have n10x := hbx 10 _ rfl
      simp only [Nat.zero_add] at n0x n1x n2x n3x n4x n5x n6x n7x n8x n9x n10x
      have HBW_w2 := hid hbw
      clear hbx hbw
      go_wp2_with fail
      go_ret
      exact ⟨by rw [HF.out]; rfl, HBW_w2.out⟩
end Go.Proofs.YtmahiejfniaahaaGreatDoor
