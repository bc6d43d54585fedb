/- caret.All. Written by wip/genplc.py. -/
import Derived.Test.YtmahiejfniaahaaGreatDoorHD
import Derived.Test.YtmahiejfniaahaaGreatDoorHC
import Derived.Test.YtmahiejfniaahaaGreatDoorGF
import Derived.Laws.EntriesVeiled
set_option linter.unusedVariables false
set_option linter.unusedSimpArgs false
set_option maxRecDepth 100000
namespace Go.Proofs.YtmahiejfniaahaaGreatDoor
open Go.RowKit
theorem carInfo : (Tryz.prog.info? 32).map (fun i => (i.zero, i.size, i.bytes)) = some (some (.agg #[.slice none 0 0, .int .i64 0, .int .i64 0, .int .i64 0]), 4, 48) := by kernel_rfl
theorem carInfoE : InfoE 32 (.agg #[.slice none 0 0, .int .i64 0, .int .i64 0, .int .i64 0]) 4 48 := by
  have h := carInfo
  rw [Option.map_eq_some_iff] at h
  obtain ⟨i, h1, h2⟩ := h
  simp only [Prod.mk.injEq] at h2
  exact ⟨i, h1, h2.1, h2.2.1, h2.2.2⟩
set_option maxHeartbeats 4000000 in
theorem call_any (t : Tree) (b : Bx) (A Ak As : Option Addr) (cap ck cs : Nat) (w : World) (hv : SliceR treeE w (Lt w.heap.size) t.kids (.slice A t.kids.length cap)) (htx : t.text.size ≤ maxLen) (hb : BoxIn w b Ak As ck cs) (htab : TabOk w) :
    Calls Tryz.prog 17 #[nodeV t A cap, boxV b Ak As ck cs] w (CarsRes w (carsR t b)) := by
  have CV : Hid (∀ W, Below w.heap.size w W → Calls Tryz.prog 37 #[nodeV t A cap, boxV b Ak As ck cs] W fun e w' => e = .returned (.bool (validS t && validB b)) ∧ Below W.heap.size W w') := fun W hW => cvalid_any t b A Ak As cap ck cs W (hv.below hW hW.size) htx (hb.below hW)
  generalize hW0 : ((w.alloc (Obj.cells #[.int .i64 t.kind, .string t.text, .int .i64 t.cols, .slice A t.kids.length cap] 24)).alloc (Obj.cells (boxC b.f (.slice Ak b.kids.length ck) (.slice As b.f.src.length cs)) 28)) = W0
  have KB : Hid (∀ W, Below W0.heap.size W0 W → Laid2 W w.heap.size w.heap.size t b A Ak As cap ck cs ∧ Below w.heap.size w W ∧ w.heap.size + 1 < W.heap.size) := fun W hW => by
    have hz0 : W0.heap.size = w.heap.size + 2 := by rw [← hW0]; simp
    have h1 := Laid2.new w t b A Ak As cap ck cs 24 28 hv hb
    have h3 : Below w.heap.size w W0 := by rw [← hW0]; exact bAl (bNew _ _) _
    rw [hW0] at h1
    exact ⟨h1.below hW (by omega) (by omega), h3.trans (hW.mono h3.size), by have := hW.size; omega⟩
  have CP : Hid (∀ W, Below w.heap.size w W → Calls Tryz.prog 44 #[nodeV t A cap] W (AllRes W (validS t) (allS [] t))) := fun W hW => pall_any t A cap W (hv.below hW hW.size) htx
  have CL0 : Hid (∀ W, Below W0.heap.size W0 W → validB b = true → Calls Tryz.prog 40 #[.pointer (some ⟨w.heap.size + 1, 0, none⟩)] W (LinesRes W b)) := fun W hW h => by
    obtain ⟨a1, a4, a5⟩ := KB.out W hW
    exact lines_any (w.heap.size + 1) b W (a1.boxPl (by omega)) h (htab.below a4)
  have CPL0 : Hid (∀ W1 W bm p Ap cp, Below W0.heap.size W0 W1 → FoundM W (Lt W1.heap.size) bm (cntB b) (rowsB b 0 0) → Below W1.heap.size W1 W → validS t = true → validB b = true → posIn t p = true → IntsR W (Lt W.heap.size) p (.slice Ap p.length cp) → Calls Tryz.prog 39 #[.pointer (some ⟨w.heap.size, 0, none⟩), .map (some bm), .slice Ap p.length cp] W (PlcRes W (placeP t b p))) := fun W1 W bm p Ap cp hW1 hF hW h1 h2 h3 hp => by
    have hWW := bCl hW1 hW
    obtain ⟨a1, a4, a5⟩ := KB.out W hWW
    obtain ⟨rs, hn⟩ := a1.nodeAt (by omega) a4.size htx
    exact place_of t b p w.heap.size bm (cntB b) cp cap A Ap rs (Lt W1.heap.size) W hn hF (fun k hk => Nat.lt_of_lt_of_le hk hW.size) h1 h2 hp h3 (htab.below a4)
  have HR0 : Hid (carsR t b = if (validS t && validB b) = false then (([] : List CarD), (1 : Int)) else match carsL t b (allS [] t) with | none => ([], (8 : Int)) | some l => (l, (0 : Int))) := rfl
  generalize carsR t b = r at *
  have HPI : Hid (∀ k (hk : k < (allS [] t).length), posIn t (allS [] t)[k] = true) := fun k hk => mem_all.1 (List.getElem_mem hk)
  clear hv htx hb htab
  cases hvv : (validS t && validB b) with
  | false =>
    rw [hvv] at CV HR0
    have HR : Hid (r = ([], 1)) := by have h := HR0.out; rwa [if_pos rfl] at h
    clear HR0 CL0 CPL0 hvv CP HPI
    obtain ⟨hl2, hbw, hgz⟩ := KB.out W0 (Below.refl _ _)
    have m0 := hl2.node 0 _ rfl
    have m1 := hl2.node 1 _ rfl
    have m2 := hl2.node 2 _ rfl
    have m3 := hl2.node 3 _ rfl
    have n0 := hl2.box 0 _ rfl
    have n1 := hl2.box 1 _ rfl
    have n2 := hl2.box 2 _ rfl
    have n3 := hl2.box 3 _ rfl
    have n4 := hl2.box 4 _ rfl
    have n5 := hl2.box 5 _ rfl
    have n6 := hl2.box 6 _ rfl
    have n7 := hl2.box 7 _ rfl
    have n8 := hl2.box 8 _ rfl
    have n9 := hl2.box 9 _ rfl
    have n10 := hl2.box 10 _ rfl
    simp only [Nat.zero_add] at m0 m1 m2 m3 n0 n1 n2 n3 n4 n5 n6 n7 n8 n9 n10
    have HBW_W0 := hid hbw
    clear hl2 hbw hgz
    go_enter Tryz.func17, Tryz.ntmps17
    go_wp2_with fail
    clear hW0
    refine (CV.out _ HBW_W0.out).mono ?_
    rintro e w1 ⟨rfl, hb1⟩
    have HT1 := hid hb1
    clear hb1
    clear m0 m1 m2 m3 n0 n1 n2 n3 n4 n5 n6 n7 n8 n9 n10
    obtain ⟨hl2, hbw, hgz⟩ := KB.out w1 HT1.out
    have m0 := hl2.node 0 _ rfl
    have m1 := hl2.node 1 _ rfl
    have m2 := hl2.node 2 _ rfl
    have m3 := hl2.node 3 _ rfl
    have n0 := hl2.box 0 _ rfl
    have n1 := hl2.box 1 _ rfl
    have n2 := hl2.box 2 _ rfl
    have n3 := hl2.box 3 _ rfl
    have n4 := hl2.box 4 _ rfl
    have n5 := hl2.box 5 _ rfl
    have n6 := hl2.box 6 _ rfl
    have n7 := hl2.box 7 _ rfl
    have n8 := hl2.box 8 _ rfl
    have n9 := hl2.box 9 _ rfl
    have n10 := hl2.box 10 _ rfl
    simp only [Nat.zero_add] at m0 m1 m2 m3 n0 n1 n2 n3 n4 n5 n6 n7 n8 n9 n10
    have HBW_w1 := hid hbw
    clear hl2 hbw hgz
    go_wp2_with fail
    go_ret2
    refine ⟨HBW_w1.out, .slice none 0 0, by rw [HR.out]; rfl, by rw [HR.out]; exact SliceR.nil_ 0 (Nat.zero_le _) none⟩
  | true =>
    have hv1 : validS t = true := by cases h : validS t <;> rw [h] at hvv <;> simp_all
    have hv2 : validB b = true := by cases h : validB b <;> rw [h] at hvv <;> simp_all
    rw [hvv] at CV HR0
    rw [hv1] at CP
    have CL : Hid (∀ W, Below W0.heap.size W0 W → Calls Tryz.prog 40 #[.pointer (some ⟨w.heap.size + 1, 0, none⟩)] W (LinesRes W b)) := fun W hW => CL0.out W hW hv2
    have CPL : Hid (∀ W1 W bm p Ap cp, Below W0.heap.size W0 W1 → FoundM W (Lt W1.heap.size) bm (cntB b) (rowsB b 0 0) → Below W1.heap.size W1 W → posIn t p = true → IntsR W (Lt W.heap.size) p (.slice Ap p.length cp) → Calls Tryz.prog 39 #[.pointer (some ⟨w.heap.size, 0, none⟩), .map (some bm), .slice Ap p.length cp] W (PlcRes W (placeP t b p))) := fun W1 W bm p Ap cp h1 h2 h3 h4 h5 => CPL0.out W1 W bm p Ap cp h1 h2 h3 hv1 hv2 h4 h5
    have HR : Hid (r = match carsL t b (allS [] t) with | none => ([], (8 : Int)) | some l => (l, (0 : Int))) := by have h := HR0.out; rwa [if_neg (by simp)] at h
    have HOK : Hid (∀ p d, posIn t p = true → placeP t b p = some d → d.Ok) := fun p d h1 h2 => by
      obtain ⟨_, a1, a2, a3, _⟩ := placeP_ok hv2 h1 h2
      exact ⟨a1.in64, a2.in64, a3.in64⟩
    have hLL := allS_le t (by have := (valid_count hv1).1; omega)
    generalize allS [] t = L at *
    clear HR0 CL0 CPL0 hvv hv1 hv2
    obtain ⟨hl2, hbw, hgz⟩ := KB.out W0 (Below.refl _ _)
    have m0 := hl2.node 0 _ rfl
    have m1 := hl2.node 1 _ rfl
    have m2 := hl2.node 2 _ rfl
    have m3 := hl2.node 3 _ rfl
    have n0 := hl2.box 0 _ rfl
    have n1 := hl2.box 1 _ rfl
    have n2 := hl2.box 2 _ rfl
    have n3 := hl2.box 3 _ rfl
    have n4 := hl2.box 4 _ rfl
    have n5 := hl2.box 5 _ rfl
    have n6 := hl2.box 6 _ rfl
    have n7 := hl2.box 7 _ rfl
    have n8 := hl2.box 8 _ rfl
    have n9 := hl2.box 9 _ rfl
    have n10 := hl2.box 10 _ rfl
    simp only [Nat.zero_add] at m0 m1 m2 m3 n0 n1 n2 n3 n4 n5 n6 n7 n8 n9 n10
    have HBW_W0 := hid hbw
    clear hl2 hbw hgz
    go_enter Tryz.func17, Tryz.ntmps17
    go_wp2_with fail
    clear hW0
    refine (CV.out _ HBW_W0.out).mono ?_
    rintro e w1 ⟨rfl, hb1⟩
    have HT1 := hid hb1
    clear hb1
    clear m0 m1 m2 m3 n0 n1 n2 n3 n4 n5 n6 n7 n8 n9 n10
    obtain ⟨hl2, hbw, hgz⟩ := KB.out w1 HT1.out
    have m0 := hl2.node 0 _ rfl
    have m1 := hl2.node 1 _ rfl
    have m2 := hl2.node 2 _ rfl
    have m3 := hl2.node 3 _ rfl
    have n0 := hl2.box 0 _ rfl
    have n1 := hl2.box 1 _ rfl
    have n2 := hl2.box 2 _ rfl
    have n3 := hl2.box 3 _ rfl
    have n4 := hl2.box 4 _ rfl
    have n5 := hl2.box 5 _ rfl
    have n6 := hl2.box 6 _ rfl
    have n7 := hl2.box 7 _ rfl
    have n8 := hl2.box 8 _ rfl
    have n9 := hl2.box 9 _ rfl
    have n10 := hl2.box 10 _ rfl
    simp only [Nat.zero_add] at m0 m1 m2 m3 n0 n1 n2 n3 n4 n5 n6 n7 n8 n9 n10
    have HBW_w1 := hid hbw
    clear hl2 hbw hgz
    go_wp2_with fail
    refine (CP.out _ HBW_w1.out).mono ?_
    rintro e w2 ⟨hb2, (⟨h, _⟩ | ⟨_, v2, rfl, hr2⟩)⟩
    case inl => cases h
    obtain ⟨A2, c2, rfl⟩ := hr2.rows.form
    have HT2 := hid (bCl HT1.out hb2)
    have HR2 := hid hr2.rowsLt
    clear hb2 hr2
    clear m0 m1 m2 m3 n0 n1 n2 n3 n4 n5 n6 n7 n8 n9 n10
    obtain ⟨hl2, hbw, hgz⟩ := KB.out w2 HT2.out
    have m0 := hl2.node 0 _ rfl
    have m1 := hl2.node 1 _ rfl
    have m2 := hl2.node 2 _ rfl
    have m3 := hl2.node 3 _ rfl
    have n0 := hl2.box 0 _ rfl
    have n1 := hl2.box 1 _ rfl
    have n2 := hl2.box 2 _ rfl
    have n3 := hl2.box 3 _ rfl
    have n4 := hl2.box 4 _ rfl
    have n5 := hl2.box 5 _ rfl
    have n6 := hl2.box 6 _ rfl
    have n7 := hl2.box 7 _ rfl
    have n8 := hl2.box 8 _ rfl
    have n9 := hl2.box 9 _ rfl
    have n10 := hl2.box 10 _ rfl
    simp only [Nat.zero_add] at m0 m1 m2 m3 n0 n1 n2 n3 n4 n5 n6 n7 n8 n9 n10
    have HBW_w2 := hid hbw
    clear hl2 hbw hgz
    go_wp2_with fail
    refine (CL.out _ HT2.out).mono ?_
    rintro e w3 ⟨bm, rfl, hbm, hfm, hb3⟩
    have HT3 := hid (bCl HT2.out hb3)
    have CPLX : Hid (∀ p A3 c3 W, Below w3.heap.size w3 W → posIn t p = true → IntsR W (Lt W.heap.size) p (.slice A3 p.length c3) → Calls Tryz.prog 39 #[.pointer (some ⟨w.heap.size, 0, none⟩), .map (some bm), .slice A3 p.length c3] W (PlcRes W (placeP t b p))) := fun p A3 c3 W hW hpi hp => by
      have hlt := hfm.lt
      exact CPL.out w2 W bm p A3 c3 HT2.out (hfm.only hW hlt (fun k hk => Nat.lt_of_lt_of_le hk hb3.size)) (hb3.trans (hW.mono hb3.size)) hpi hp
    have HR3 := hid (HR2.out.below hb3 hb3.size)
    clear hb3 hfm hbm CPL
    clear m0 m1 m2 m3 n0 n1 n2 n3 n4 n5 n6 n7 n8 n9 n10
    obtain ⟨hl2, hbw, hgz⟩ := KB.out w3 HT3.out
    have m0 := hl2.node 0 _ rfl
    have m1 := hl2.node 1 _ rfl
    have m2 := hl2.node 2 _ rfl
    have m3 := hl2.node 3 _ rfl
    have n0 := hl2.box 0 _ rfl
    have n1 := hl2.box 1 _ rfl
    have n2 := hl2.box 2 _ rfl
    have n3 := hl2.box 3 _ rfl
    have n4 := hl2.box 4 _ rfl
    have n5 := hl2.box 5 _ rfl
    have n6 := hl2.box 6 _ rfl
    have n7 := hl2.box 7 _ rfl
    have n8 := hl2.box 8 _ rfl
    have n9 := hl2.box 9 _ rfl
    have n10 := hl2.box 10 _ rfl
    simp only [Nat.zero_add] at m0 m1 m2 m3 n0 n1 n2 n3 n4 n5 n6 n7 n8 n9 n10
    have HBW_w3 := hid hbw
    clear hl2 hbw hgz
    have HO0 : Hid (OwnE carE 32 w3 w3.heap.size [] (.slice none 0 0)) := OwnE.nil _ _
    clear m0 m1 m2 m3 n0 n1 n2 n3 n4 n5 n6 n7 n8 n9 n10
    go_wp2_with fail
    go_loopw [9, 29] (fun v i wr => Below w3.heap.size w3 wr ∧ ∃ k : Nat, k ≤ L.length ∧ i = .int .i64 k ∧ ∃ l, carsL t b (L.take k) = some l ∧ OwnE carE 32 wr w3.heap.size l v) (fun _ i _ => L.length - (intOf i).toNat)
    case atStart => exact ⟨Below.refl _ _, 0, Nat.zero_le _, rfl, [], by simp [carsL], HO0.out⟩
    case round =>
      obtain ⟨hbr, k, hk, rfl, l, hl, ho⟩ := hrel
      have HBR := hid hbr
      have HL := hid hl
      have HO := hid ho
      obtain ⟨Av, cv, rfl⟩ := ho.form
      have hll : l.length ≤ 2000000 := by have := carsL_len t b _ _ hl; have h2 : (L.take k).length ≤ L.length := by simp; omega
                                          omega
      have hz3 := hbr.size
      clear hbr hl ho HO0
      rcases Nat.lt_or_ge k L.length with hlt | hge
      · obtain ⟨_, _, rs, hq, _, _, hrd, hls⟩ := HR3.out.below HBR.out HBR.out.size
        cases hq
        obtain ⟨g, o, A3, c3, rs3, rfl, hg, q0, h5, h6, h7, h8⟩ := rows_at hrd hls hlt
        have CPK := hid (CPLX.out L[k] A3 c3 wr HBR.out (HPI.out k hlt) ⟨A3, c3, rs3, rfl, h5, h6, h7, h8⟩)
        have HOKK := hid (HOK.out L[k] · (HPI.out k hlt))
        have i5 : decide ((k : Int) < (L.length : Int)) = true := by rw [decide_eq_true_eq]; omega
        have i6 : (0 : Int) ≤ (k : Int) := by omega
        have i7 : (k : Int) < (L.length : Int) := by omega
        have HTK := hid (carsL_take t b L k hlt)
        have HNO := hid (carsL_none t b L k hlt)
        clear hrd hls h5 h6 h7 h8
        generalize L[k] = p at *
        cases ho : placeP t b p with
        | none =>
          rw [ho] at CPK HNO
          have HRR : Hid (r = ([], 8)) := by show _ = _; rw [HR.out, HNO.out rfl]
          clear ho HTK HOKK
          go_wp2_with fail
          refine CPK.out.mono ?_
          rintro e w4 ⟨hb4, ⟨_, rfl⟩ | ⟨d, v, h, _⟩⟩
          case inr => cases h
          have HT4 := hid (bCl HBR.out hb4)
          clear hb4
          go_wp2_with fail
          go_ret2
          refine ⟨bAl (bCl (KB.out w3 HT3.out).2.1 HT4.out) _, .slice none 0 0, by rw [HRR.out]; rfl, by rw [HRR.out]; exact SliceR.nil_ 0 (Nat.zero_le _) none⟩
        | some d =>
          rw [ho] at CPK HTK
          have HDO := hid (HOKK.out d ho)
          clear ho HNO HOKK
          go_wp2_with fail
          refine CPK.out.mono ?_
          rintro e w4 ⟨hb4, ⟨h, _⟩ | ⟨d', v, h, rfl, hi4⟩⟩
          case inl => cases h
          cases h
          obtain ⟨A4, c4, rfl⟩ := hi4.form
          have HB4 := hid hb4
          have HI4 := hid hi4
          clear hb4 hi4 q0
          go_upto_region 12 with fail
          obtain ⟨w5, hW5⟩ : ∃ W, w4.alloc (.cells #[.slice A4 d.pos.length c4, .int .i64 d.x, .int .i64 d.top, .int .i64 d.bottom] 32) = W := ⟨_, rfl⟩
          have hx5 : BoxL w5 w4.heap.size 0 [.slice A4 d.pos.length c4, .int .i64 d.x, .int .i64 d.top, .int .i64 d.bottom] := by rw [← hW5]; exact BoxL.new _ _ _ _ rfl _ rfl
          have hb5 : Below w4.heap.size w4 w5 := by rw [← hW5]; exact bNew _ _
          have HB5 := hid (bCl HB4.out hb5)
          have HI5 := hid (HI4.out.keep (S' := fun k => wr.heap.size ≤ k ∧ k < w5.heap.size) (fun p hp => hb5.cell hp.2) (fun k hk => ⟨hk.1, Nat.lt_of_lt_of_le hk.2 hb5.size⟩))
          have HRD : Hid (carE.R w5 (fun k => wr.heap.size ≤ k ∧ k < w5.heap.size) d #[.slice A4 d.pos.length c4, .int .i64 d.x, .int .i64 d.top, .int .i64 d.bottom].toList) := ⟨_, rfl, HDO.out, HI5.out⟩
          have hz5 := HB5.out.size
          rw [hW5]
          clear hW5 hb5
          have x0 := hx5 0 _ rfl
          have x1 := hx5 1 _ rfl
          have x2 := hx5 2 _ rfl
          have x3 := hx5 3 _ rfl
          simp only [Nat.zero_add] at x0 x1 x2 x3
          clear hx5
          go_wp2_with first
            | (refine app_E (TS := 42) Tryz.underlying42 carInfoE rfl (by decide) rfl (.tmp 41) (.tmp 43) rfl w3.heap.size _ l [d] rfl ((HO.out.below HB5.out).below (below_allocR _ _)) _ 1 1 rfl (one_E HRD.out hz3 (fun q hq => (HO.out.own_lt q hq).2) hz5 _ rfl _) (by simp; omega) (by simp; omega) ?_
               intro v' w' ho' hb'
               have HO' := hid ho'
               have HB' := hid hb'
               clear ho' hb')
          go_roundw
          case rel => exact ⟨((HBR.out.trans (HB5.out.mono hz3)).alloc (HBR.out.trans (HB5.out.mono hz3)).size _).trans HB'.out, k + 1, by omega, by go_num, l ++ [d], by rw [HTK.out, HL.out]; rfl, HO'.out⟩
          case measure => simp [intOf]; omega
      · have i5 : decide ((k : Int) < (L.length : Int)) = false := by rw [decide_eq_false_iff_not]; omega
        have HRR : Hid (r = (l, 0)) := by
          show _ = _
          have h := HL.out
          rw [List.take_of_length_le hge] at h
          rw [HR.out, h]
        go_wp2_with fail
        go_ret2
        have h := HRR.out
        subst h
        have hbw3 := (KB.out w3 HT3.out).2.1
        exact ⟨bCl hbw3 HBR.out, _, rfl, HO.out.rows.keep (fun _ _ => rfl) (fun k hk => ⟨Nat.le_trans hbw3.size hk.1, hk.2⟩)⟩
end Go.Proofs.YtmahiejfniaahaaGreatDoor
