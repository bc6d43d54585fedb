/- ref40.All. Written by wip/genrpl.py. -/
import Derived.Test.YtmahiejfniaahaaGreatDoorHN
import Derived.Test.YtmahiejfniaahaaGreatDoorHD
import Derived.Test.YtmahiejfniaahaaGreatDoorR28cv
import Derived.Test.YtmahiejfniaahaaGreatDoorHI
import Derived.Test.YtmahiejfniaahaaGreatDoorGR
set_option linter.unusedVariables false
set_option linter.unusedSimpArgs false
set_option maxRecDepth 100000
namespace Go.Proofs.YtmahiejfniaahaaGreatDoor
open Go.RowKit
theorem rcarInfo : (Tryz.prog.info? 36).map (fun i => (i.zero, i.size, i.bytes)) = some (some (.agg #[.slice none 0 0, .int .i64 0, .int .i64 0, .int .i64 0]), 4, 48) := by kernel_rfl
theorem rcarInfoE : InfoE 36 (.agg #[.slice none 0 0, .int .i64 0, .int .i64 0, .int .i64 0]) 4 48 := by
  have h := rcarInfo
  rw [Option.map_eq_some_iff] at h
  obtain ⟨i, h1, h2⟩ := h
  simp only [Prod.mk.injEq] at h2
  exact ⟨i, h1, h2.1, h2.2.1, h2.2.2⟩
set_option maxHeartbeats 8000000 in
theorem rcall_any (t : Tree) (b : Bx) (A Ak As : Option Addr) (cap ck cs : Nat) (w : World) (hv : SliceR treeE w (Lt w.heap.size) t.kids (.slice A t.kids.length cap)) (htx : t.text.size ≤ maxLen) (hct : countS t ≤ 900000) (hb : BoxIn w b Ak As ck cs) (hcb : cntB b ≤ 1000000) :
    Calls Tryz.prog 18 #[nodeV t A cap, boxV b Ak As ck cs] w (CarsRes w (carsR t b)) := by
  have CV : Hid (∀ W, Below w.heap.size w W → Calls Tryz.prog 31 #[nodeV t A cap] W fun e w' => e = .returned (.bool (validS t)) ∧ Below W.heap.size W w') := fun W hW => valid_any t A cap W (hv.below hW hW.size) htx (by omega)
  have CW : Hid (∀ W, Below w.heap.size w W → Calls Tryz.prog 41 #[boxV b Ak As ck cs] W fun e w' => e = .returned (.bool (validB b)) ∧ Below W.heap.size W w') := fun W hW => bvalid28_any b Ak As ck cs W hb.ok.name (hb.below hW).src (hb.below hW).kids hcb
  have CRW : Hid (validS t = true → validB b = true → ∀ (q : List Int) (x : Int) A1 c1 W, Below w.heap.size w W → posIn t (q ++ [x]) = true → IntsR W (Lt W.heap.size) q (.slice A1 q.length c1) → Calls Tryz.prog 43 #[nodeV t A cap, boxV b Ak As ck cs, .slice A1 q.length c1, .int .i64 x] W (PlcRes W (placeS t b q x))) := fun h1 h2 q x A1 c1 W hW hpi hq => by
    obtain ⟨t0, a1, a2, a3⟩ := posIn_row t q x hpi
    obtain ⟨b1, _⟩ := posIn_bd t _ hpi
    have := (valid_count h1).1
    have := depth_le_count t
    exact rrow_any t t0 b q x A Ak As A1 cap ck cs c1 W (hv.below hW hW.size) htx (hb.below hW) h1 h2 hq a1 ⟨a2, a3⟩ (by simp at b1; omega)
  have CP : Hid (∀ W, Below w.heap.size w W → Calls Tryz.prog 33 #[nodeV t A cap] W (AllRes W (validS t) (allS [] t))) := fun W hW => rAll_any t A cap W (hv.below hW hW.size) htx hct
  generalize hW0 : ((w.alloc (Obj.cells #[.int .i64 t.kind, .string t.text, .int .i64 t.cols, .slice A t.kids.length cap] 24)).alloc (Obj.cells (boxC b.f (.slice Ak b.kids.length ck) (.slice As b.f.src.length cs)) 28)) = W0
  have KB : Hid (∀ W, Below W0.heap.size W0 W → Laid2 W w.heap.size w.heap.size t b A Ak As cap ck cs ∧ Below w.heap.size w W ∧ w.heap.size + 1 < W.heap.size) := fun W hW => by
    have hz0 : W0.heap.size = w.heap.size + 2 := by rw [← hW0]; simp
    have h1 := Laid2.new w t b A Ak As cap ck cs 24 28 hv hb
    have h3 : Below w.heap.size w W0 := by rw [← hW0]; exact bAl (bNew _ _) _
    rw [hW0] at h1
    exact ⟨h1.below hW (by omega) (by omega), h3.trans (hW.mono h3.size), by have := hW.size; omega⟩
  have HR0 : Hid (carsR t b = if (validS t && validB b) = false then (([] : List CarD), (1 : Int)) else match carsL t b (allS [] t) with | none => ([], (8 : Int)) | some l => (l, (0 : Int))) := rfl
  generalize carsR t b = r at *
  have HPI : Hid (∀ k (hk : k < (allS [] t).length), posIn t (allS [] t)[k] = true) := fun k hk => mem_all.1 (List.getElem_mem hk)
  clear hv htx hb hct hcb
  cases hv1 : validS t with
  | false =>
    rw [hv1] at CV HR0
    have HR : Hid (r = ([], 1)) := by have h := HR0.out; rwa [if_pos (by simp)] at h
    clear HR0 CP CW CRW HPI hv1
    obtain ⟨hl2, hbw, hgz⟩ := KB.out W0 (Below.refl _ _)
    have m0 := hl2.node 0 _ rfl
    have m1 := hl2.node 1 _ rfl
    have m2 := hl2.node 2 _ rfl
    have m3 := hl2.node 3 _ rfl
    have n0 := hl2.box 0 _ rfl
    have n1 := hl2.box 1 _ rfl
    have n2 := hl2.box 2 _ rfl
    have n3 := hl2.box 3 _ rfl
    have n4 := hl2.box 4 _ rfl
    have n5 := hl2.box 5 _ rfl
    have n6 := hl2.box 6 _ rfl
    have n7 := hl2.box 7 _ rfl
    have n8 := hl2.box 8 _ rfl
    have n9 := hl2.box 9 _ rfl
    have n10 := hl2.box 10 _ rfl
    simp only [Nat.zero_add] at m0 m1 m2 m3 n0 n1 n2 n3 n4 n5 n6 n7 n8 n9 n10
    have HBW_W0 := hid hbw
    clear hl2 hbw hgz
    go_enter Tryz.func18, Tryz.ntmps18
    go_wp2_with fail
    clear hW0
    refine (CV.out _ HBW_W0.out).mono ?_
    rintro e w1 ⟨rfl, hb1⟩
    have HT1 := hid hb1
    clear hb1
    clear m0 m1 m2 m3 n0 n1 n2 n3 n4 n5 n6 n7 n8 n9 n10
    obtain ⟨hl2, hbw, hgz⟩ := KB.out w1 HT1.out
    have m0 := hl2.node 0 _ rfl
    have m1 := hl2.node 1 _ rfl
    have m2 := hl2.node 2 _ rfl
    have m3 := hl2.node 3 _ rfl
    have n0 := hl2.box 0 _ rfl
    have n1 := hl2.box 1 _ rfl
    have n2 := hl2.box 2 _ rfl
    have n3 := hl2.box 3 _ rfl
    have n4 := hl2.box 4 _ rfl
    have n5 := hl2.box 5 _ rfl
    have n6 := hl2.box 6 _ rfl
    have n7 := hl2.box 7 _ rfl
    have n8 := hl2.box 8 _ rfl
    have n9 := hl2.box 9 _ rfl
    have n10 := hl2.box 10 _ rfl
    simp only [Nat.zero_add] at m0 m1 m2 m3 n0 n1 n2 n3 n4 n5 n6 n7 n8 n9 n10
    have HBW_w1 := hid hbw
    clear hl2 hbw hgz
    go_wp2_with fail
    go_ret2
    exact ⟨HBW_w1.out, .slice none 0 0, by rw [HR.out]; rfl, by rw [HR.out]; exact SliceR.nil_ 0 (Nat.zero_le _) none⟩
  | true =>
    rw [hv1] at CV HR0 CP
    cases hv2 : validB b with
    | false =>
      rw [hv2] at CW HR0
      have HR : Hid (r = ([], 1)) := by have h := HR0.out; rwa [if_pos (by simp)] at h
      clear HR0 CP CRW HPI hv1 hv2
      obtain ⟨hl2, hbw, hgz⟩ := KB.out W0 (Below.refl _ _)
      have m0 := hl2.node 0 _ rfl
      have m1 := hl2.node 1 _ rfl
      have m2 := hl2.node 2 _ rfl
      have m3 := hl2.node 3 _ rfl
      have n0 := hl2.box 0 _ rfl
      have n1 := hl2.box 1 _ rfl
      have n2 := hl2.box 2 _ rfl
      have n3 := hl2.box 3 _ rfl
      have n4 := hl2.box 4 _ rfl
      have n5 := hl2.box 5 _ rfl
      have n6 := hl2.box 6 _ rfl
      have n7 := hl2.box 7 _ rfl
      have n8 := hl2.box 8 _ rfl
      have n9 := hl2.box 9 _ rfl
      have n10 := hl2.box 10 _ rfl
      simp only [Nat.zero_add] at m0 m1 m2 m3 n0 n1 n2 n3 n4 n5 n6 n7 n8 n9 n10
      have HBW_W0 := hid hbw
      clear hl2 hbw hgz
      go_enter Tryz.func18, Tryz.ntmps18
      go_wp2_with fail
      clear hW0
      refine (CV.out _ HBW_W0.out).mono ?_
      rintro e w1 ⟨rfl, hb1⟩
      have HT1 := hid hb1
      clear hb1
      clear m0 m1 m2 m3 n0 n1 n2 n3 n4 n5 n6 n7 n8 n9 n10
      obtain ⟨hl2, hbw, hgz⟩ := KB.out w1 HT1.out
      have m0 := hl2.node 0 _ rfl
      have m1 := hl2.node 1 _ rfl
      have m2 := hl2.node 2 _ rfl
      have m3 := hl2.node 3 _ rfl
      have n0 := hl2.box 0 _ rfl
      have n1 := hl2.box 1 _ rfl
      have n2 := hl2.box 2 _ rfl
      have n3 := hl2.box 3 _ rfl
      have n4 := hl2.box 4 _ rfl
      have n5 := hl2.box 5 _ rfl
      have n6 := hl2.box 6 _ rfl
      have n7 := hl2.box 7 _ rfl
      have n8 := hl2.box 8 _ rfl
      have n9 := hl2.box 9 _ rfl
      have n10 := hl2.box 10 _ rfl
      simp only [Nat.zero_add] at m0 m1 m2 m3 n0 n1 n2 n3 n4 n5 n6 n7 n8 n9 n10
      have HBW_w1 := hid hbw
      clear hl2 hbw hgz
      go_wp2_with fail
      refine (CW.out _ HBW_w1.out).mono ?_
      rintro e w2 ⟨rfl, hb2⟩
      have HT2 := hid (bCl HT1.out hb2)
      clear hb2
      clear m0 m1 m2 m3 n0 n1 n2 n3 n4 n5 n6 n7 n8 n9 n10
      obtain ⟨hl2, hbw, hgz⟩ := KB.out w2 HT2.out
      have m0 := hl2.node 0 _ rfl
      have m1 := hl2.node 1 _ rfl
      have m2 := hl2.node 2 _ rfl
      have m3 := hl2.node 3 _ rfl
      have n0 := hl2.box 0 _ rfl
      have n1 := hl2.box 1 _ rfl
      have n2 := hl2.box 2 _ rfl
      have n3 := hl2.box 3 _ rfl
      have n4 := hl2.box 4 _ rfl
      have n5 := hl2.box 5 _ rfl
      have n6 := hl2.box 6 _ rfl
      have n7 := hl2.box 7 _ rfl
      have n8 := hl2.box 8 _ rfl
      have n9 := hl2.box 9 _ rfl
      have n10 := hl2.box 10 _ rfl
      simp only [Nat.zero_add] at m0 m1 m2 m3 n0 n1 n2 n3 n4 n5 n6 n7 n8 n9 n10
      have HBW_w2 := hid hbw
      clear hl2 hbw hgz
      go_wp2_with fail
      go_ret2
      exact ⟨HBW_w2.out, .slice none 0 0, by rw [HR.out]; rfl, by rw [HR.out]; exact SliceR.nil_ 0 (Nat.zero_le _) none⟩
    | true =>
      rw [hv2] at CW HR0
      have CRW2 := hid (CRW.out hv1 hv2)
      have HR : Hid (r = match carsL t b (allS [] t) with | none => ([], (8 : Int)) | some l => (l, (0 : Int))) := by have h := HR0.out; rwa [if_neg (by simp)] at h
      have HOK : Hid (∀ p d, posIn t p = true → placeP t b p = some d → d.Ok) := fun p d h1 h2 => by
        obtain ⟨_, a1, a2, a3, _⟩ := placeP_ok hv2 h1 h2
        exact ⟨a1.in64, a2.in64, a3.in64⟩
      have hLL := allS_le t (by have := (valid_count hv1).1; omega)
      generalize allS [] t = L at *
      clear HR0 CRW hv1 hv2
      obtain ⟨hl2, hbw, hgz⟩ := KB.out W0 (Below.refl _ _)
      have m0 := hl2.node 0 _ rfl
      have m1 := hl2.node 1 _ rfl
      have m2 := hl2.node 2 _ rfl
      have m3 := hl2.node 3 _ rfl
      have n0 := hl2.box 0 _ rfl
      have n1 := hl2.box 1 _ rfl
      have n2 := hl2.box 2 _ rfl
      have n3 := hl2.box 3 _ rfl
      have n4 := hl2.box 4 _ rfl
      have n5 := hl2.box 5 _ rfl
      have n6 := hl2.box 6 _ rfl
      have n7 := hl2.box 7 _ rfl
      have n8 := hl2.box 8 _ rfl
      have n9 := hl2.box 9 _ rfl
      have n10 := hl2.box 10 _ rfl
      simp only [Nat.zero_add] at m0 m1 m2 m3 n0 n1 n2 n3 n4 n5 n6 n7 n8 n9 n10
      have HBW_W0 := hid hbw
      clear hl2 hbw hgz
      go_enter Tryz.func18, Tryz.ntmps18
      go_wp2_with fail
      clear hW0
      refine (CV.out _ HBW_W0.out).mono ?_
      rintro e w1 ⟨rfl, hb1⟩
      have HT1 := hid hb1
      clear hb1
      clear m0 m1 m2 m3 n0 n1 n2 n3 n4 n5 n6 n7 n8 n9 n10
      obtain ⟨hl2, hbw, hgz⟩ := KB.out w1 HT1.out
      have m0 := hl2.node 0 _ rfl
      have m1 := hl2.node 1 _ rfl
      have m2 := hl2.node 2 _ rfl
      have m3 := hl2.node 3 _ rfl
      have n0 := hl2.box 0 _ rfl
      have n1 := hl2.box 1 _ rfl
      have n2 := hl2.box 2 _ rfl
      have n3 := hl2.box 3 _ rfl
      have n4 := hl2.box 4 _ rfl
      have n5 := hl2.box 5 _ rfl
      have n6 := hl2.box 6 _ rfl
      have n7 := hl2.box 7 _ rfl
      have n8 := hl2.box 8 _ rfl
      have n9 := hl2.box 9 _ rfl
      have n10 := hl2.box 10 _ rfl
      simp only [Nat.zero_add] at m0 m1 m2 m3 n0 n1 n2 n3 n4 n5 n6 n7 n8 n9 n10
      have HBW_w1 := hid hbw
      clear hl2 hbw hgz
      go_wp2_with fail
      refine (CW.out _ HBW_w1.out).mono ?_
      rintro e w2 ⟨rfl, hb2⟩
      have HT2 := hid (bCl HT1.out hb2)
      clear hb2
      clear m0 m1 m2 m3 n0 n1 n2 n3 n4 n5 n6 n7 n8 n9 n10
      obtain ⟨hl2, hbw, hgz⟩ := KB.out w2 HT2.out
      have m0 := hl2.node 0 _ rfl
      have m1 := hl2.node 1 _ rfl
      have m2 := hl2.node 2 _ rfl
      have m3 := hl2.node 3 _ rfl
      have n0 := hl2.box 0 _ rfl
      have n1 := hl2.box 1 _ rfl
      have n2 := hl2.box 2 _ rfl
      have n3 := hl2.box 3 _ rfl
      have n4 := hl2.box 4 _ rfl
      have n5 := hl2.box 5 _ rfl
      have n6 := hl2.box 6 _ rfl
      have n7 := hl2.box 7 _ rfl
      have n8 := hl2.box 8 _ rfl
      have n9 := hl2.box 9 _ rfl
      have n10 := hl2.box 10 _ rfl
      simp only [Nat.zero_add] at m0 m1 m2 m3 n0 n1 n2 n3 n4 n5 n6 n7 n8 n9 n10
      have HBW_w2 := hid hbw
      clear hl2 hbw hgz
      go_wp2_with fail
      refine (CP.out _ HBW_w2.out).mono ?_
      rintro e w3 ⟨hb3, (⟨h, _⟩ | ⟨_, v3, rfl, hr3⟩)⟩
      case inl => cases h
      obtain ⟨A2, c2, rfl⟩ := hr3.rows.form
      have HT3 := hid (bCl HT2.out hb3)
      have HR3 := hid hr3.rowsLt
      clear hb3 hr3
      clear m0 m1 m2 m3 n0 n1 n2 n3 n4 n5 n6 n7 n8 n9 n10
      have HO0 : Hid (OwnE carE 36 w3 w3.heap.size [] (.slice none 0 0)) := OwnE.nil _ _
      go_wp2_with fail
      go_loopw [8, 9] (fun v i wr => Below w3.heap.size w3 wr ∧ ∃ k : Nat, k ≤ L.length ∧ i = .int .i64 k ∧ ∃ l, carsL t b (L.take k) = some l ∧ OwnE carE 36 wr w3.heap.size l v) (fun _ i _ => L.length - (intOf i).toNat)
      case atStart => exact ⟨Below.refl _ _, 0, Nat.zero_le _, rfl, [], by simp [carsL], HO0.out⟩
      case round =>
        obtain ⟨hbr, k, hk, rfl, l, hl, ho⟩ := hrel
        have HBR := hid hbr
        have HTR := hid (bCl HT3.out hbr)
        have HL := hid hl
        have HO := hid ho
        obtain ⟨Av, cv, rfl⟩ := ho.form
        have hll : l.length ≤ 2000000 := by
          have := carsL_len t b _ _ hl
          have h2 : (L.take k).length ≤ L.length := by simp; omega
          omega
        have hz3 := hbr.size
        clear hbr hl ho HO0
        rcases Nat.lt_or_ge k L.length with hlt | hge
        · obtain ⟨_, _, rs, hq, _, _, hrd, hls⟩ := HR3.out.below HBR.out HBR.out.size
          cases hq
          obtain ⟨gl, ol, A3, cp, rs3, rfl, hg, q5, h5, h6, h7, h8⟩ := rows_at hrd hls hlt
          have hp3 : IntsR wr (Lt wr.heap.size) L[k] (.slice A3 L[k].length cp) := ⟨A3, cp, rs3, rfl, h5, h6, h7, h8⟩
          have hpi := HPI.out k hlt
          have HOKK := hid (HOK.out L[k] · hpi)
          have i5 : decide ((k : Int) < (L.length : Int)) = true := by rw [decide_eq_true_eq]; omega
          have i6 : (0 : Int) ≤ (k : Int) := by omega
          have i7 : (k : Int) < (L.length : Int) := by omega
          have HTK := hid (carsL_take t b L k hlt)
          have HNO := hid (carsL_none t b L k hlt)
          obtain ⟨q, x, hqx⟩ := posIn_ne hpi
          clear hrd hls h7 h8 h6
          generalize L[k] = p at *
          subst hqx
          have e : (q ++ [x]).length = q.length + 1 := by simp
          obtain ⟨gp, op, hAp, hgp, hcx⟩ : ∃ gp op, A3 = some ⟨gp, op, none⟩ ∧ gp < wr.heap.size ∧ wr.cell? ⟨gp, op + q.length, none⟩ = some (.int .i64 x) := by
            obtain ⟨_, _, is, hq, _, _, hrd, hi⟩ := hp3
            cases hq
            obtain ⟨g, o, e, h1, h2, h3⟩ := ints_at hrd hi (k := q.length) (by simp)
            exact ⟨g, o, e, h1, by simpa using h3⟩
          subst hAp
          rw [e] at q5 hp3 h5
          obtain ⟨A1, hsl, hcut⟩ := cut_h intE Tryz.underlying26 size_int (some ⟨gp, op, none⟩) (q.length + 1) cp (q.length : Int) q.length rfl (by omega) h5
          have hq1 := hcut _ _ _ hp3
          rw [List.take_left' rfl] at hq1
          have CRX : Hid (∀ W, Below wr.heap.size wr W → Calls Tryz.prog 43 #[nodeV t A cap, boxV b Ak As ck cs, .slice A1 q.length cp, .int .i64 x] W (PlcRes W (placeP t b (q ++ [x])))) := fun W hW => by
            rw [placeP_snoc]
            exact CRW2.out q x A1 cp W (bCl (KB.out wr HTR.out).2.1 hW) hpi (hq1.below hW hW.size)
          have HXC : Hid (∀ W, Below wr.heap.size wr W → W.cell? ⟨gp, op + q.length, none⟩ = some (.int .i64 x)) := fun W hW => (hW.cell (p := ⟨gp, op + q.length, none⟩) hgp).trans hcx
          have hgl := cIn q5
          have HQC : Hid (∀ W, Below wr.heap.size wr W → W.cell? ⟨gl, ol + k, none⟩ = some (.slice (some ⟨gp, op, none⟩) (q.length + 1) cp)) := fun W hW => (hW.cell (p := ⟨gl, ol + k, none⟩) hgl).trans q5
          have hql : q.length ≤ 9223372036854775806 := by have := hp3.lens; unfold maxLen at this; simp at this; omega
          have hq5 : (q.length : Int) < ((q.length : Int) + 1) := by omega
          have HD1 : Hid (Below wr.heap.size wr wr.drew) := (Below.refl _ _).drew
          have HD2 : Hid (Below wr.heap.size wr (wr.alloc (.cells #[.slice none 0 0, .int .i64 0, .int .i64 0, .int .i64 0] 36)).drew) := (bNew wr _).drew
          have HZL : Hid (wr.heap.size < (wr.alloc (.cells #[.slice none 0 0, .int .i64 0, .int .i64 0, .int .i64 0] 36)).drew.heap.size) := by show _ < (wr.alloc _).heap.size; simp
          have hgz := (KB.out wr HTR.out).2.2
          simp only at hgl
          have ne1 : ¬ (w.heap.size = wr.heap.size) := by omega
          have ne2 : ¬ (wr.heap.size = w.heap.size) := by omega
          have ne3 : ¬ (w.heap.size + 1 = wr.heap.size) := by omega
          have ne4 : ¬ (wr.heap.size = w.heap.size + 1) := by omega
          have ne5 : ¬ (gp = wr.heap.size) := by omega
          have ne6 : ¬ (wr.heap.size = gp) := by omega
          have ne7 : ¬ (gl = wr.heap.size) := by omega
          have ne8 : ¬ (wr.heap.size = gl) := by omega
          have hx5 := hcx
          obtain ⟨hl2, hbw, hgz⟩ := KB.out wr HTR.out
          have m0 := hl2.node 0 _ rfl
          have m1 := hl2.node 1 _ rfl
          have m2 := hl2.node 2 _ rfl
          have m3 := hl2.node 3 _ rfl
          have n0 := hl2.box 0 _ rfl
          have n1 := hl2.box 1 _ rfl
          have n2 := hl2.box 2 _ rfl
          have n3 := hl2.box 3 _ rfl
          have n4 := hl2.box 4 _ rfl
          have n5 := hl2.box 5 _ rfl
          have n6 := hl2.box 6 _ rfl
          have n7 := hl2.box 7 _ rfl
          have n8 := hl2.box 8 _ rfl
          have n9 := hl2.box 9 _ rfl
          have n10 := hl2.box 10 _ rfl
          simp only [Nat.zero_add] at m0 m1 m2 m3 n0 n1 n2 n3 n4 n5 n6 n7 n8 n9 n10
          skip
          clear hl2 hbw hgz
          clear hp3 hpi hcut hq1 hcx h5 hgl e hgz
          generalize hpo : placeP t b (q ++ [x]) = o at *
          have HPO := hid hpo
          clear hpo
          cases o with
          | none =>
            have HRR : Hid (r = ([], 8)) := by show _ = _; rw [HR.out, HNO.out rfl]
            clear HTK HNO HOKK
            go_upto_region 9 with fail
            go_cut [11, 12] (fun p v wx => PlcCut wr none p v wx)
            case first =>
              go_wp2_with fail
              go_region_held3 (fun w' => w'.cell? ⟨w.heap.size, 0, none⟩ = some (.int .i64 t.kind) ∧ w'.cell? ⟨w.heap.size, 1, none⟩ = some (.string t.text) ∧ w'.cell? ⟨w.heap.size, 2, none⟩ = some (.int .i64 t.cols) ∧ w'.cell? ⟨w.heap.size, 3, none⟩ = some (.slice A t.kids.length cap) ∧ w'.cell? ⟨w.heap.size + 1, 0, none⟩ = some (.int .i64 b.f.kind) ∧ w'.cell? ⟨w.heap.size + 1, 1, none⟩ = some (.string b.f.name) ∧ w'.cell? ⟨w.heap.size + 1, 2, none⟩ = some (.int .i64 b.f.size) ∧ w'.cell? ⟨w.heap.size + 1, 3, none⟩ = some (.int .i64 b.f.w) ∧ w'.cell? ⟨w.heap.size + 1, 4, none⟩ = some (.int .i64 b.f.h) ∧ w'.cell? ⟨w.heap.size + 1, 5, none⟩ = some (.int .i64 b.f.d) ∧ w'.cell? ⟨w.heap.size + 1, 6, none⟩ = some (.int .i64 b.f.x) ∧ w'.cell? ⟨w.heap.size + 1, 7, none⟩ = some (.int .i64 b.f.y) ∧ w'.cell? ⟨w.heap.size + 1, 8, none⟩ = some (.slice Ak b.kids.length ck) ∧ w'.cell? ⟨w.heap.size + 1, 9, none⟩ = some (.int .i64 b.f.of_) ∧ w'.cell? ⟨w.heap.size + 1, 10, none⟩ = some (.slice As b.f.src.length cs) ∧ w'.cell? ⟨gp, op + q.length, none⟩ = some (.int .i64 x) ∧ w'.cell? ⟨gl, ol + k, none⟩ = some (.slice (some ⟨gp, op, none⟩) (q.length + 1) cp)) (go_keep) (first
                | (go_at_call 43; (with_reducible refine (CRX.out _ HD1.out).mono ?_); rintro e w5 ⟨hb5, (⟨_, rfl⟩ | ⟨d', v5, ho, _⟩)⟩; (case inr => cases ho); have HB5 : Hid (Below wr.heap.size wr w5) := bDr hb5; clear hb5 ; obtain ⟨hl2, hbw, _⟩ := KB.out w5 (bCl HTR.out HB5.out); have m0 := hl2.node 0 _ rfl; have m1 := hl2.node 1 _ rfl; have m2 := hl2.node 2 _ rfl; have m3 := hl2.node 3 _ rfl; have n0 := hl2.box 0 _ rfl; have n1 := hl2.box 1 _ rfl; have n2 := hl2.box 2 _ rfl; have n3 := hl2.box 3 _ rfl; have n4 := hl2.box 4 _ rfl; have n5 := hl2.box 5 _ rfl; have n6 := hl2.box 6 _ rfl; have n7 := hl2.box 7 _ rfl; have n8 := hl2.box 8 _ rfl; have n9 := hl2.box 9 _ rfl; have n10 := hl2.box 10 _ rfl; simp only [Nat.zero_add] at m0 m1 m2 m3 n0 n1 n2 n3 n4 n5 n6 n7 n8 n9 n10; have hx5 := HXC.out w5 HB5.out; have q5 := HQC.out w5 HB5.out; clear hl2 hbw)
                | (go_at_call 43; (with_reducible refine (CRX.out _ HD2.out).mono ?_); rintro e w5 ⟨hb5, (⟨_, rfl⟩ | ⟨d', v5, ho, _⟩)⟩; (case inr => cases ho); have HB5 : Hid (Below wr.heap.size wr w5) := bCl (bNew wr _).drew hb5; have HZ5 : Hid (HasObj w5 wr.heap.size (.cells #[.slice none 0 0, .int .i64 0, .int .i64 0, .int .i64 0] 36)) := ((HasObj.at0 wr _).dr).below hb5; obtain ⟨z0, z1, z2, z3, y0, y1, y2, y3⟩ := zfacts HZ5.out; clear hb5 ; obtain ⟨hl2, hbw, _⟩ := KB.out w5 (bCl HTR.out HB5.out); have m0 := hl2.node 0 _ rfl; have m1 := hl2.node 1 _ rfl; have m2 := hl2.node 2 _ rfl; have m3 := hl2.node 3 _ rfl; have n0 := hl2.box 0 _ rfl; have n1 := hl2.box 1 _ rfl; have n2 := hl2.box 2 _ rfl; have n3 := hl2.box 3 _ rfl; have n4 := hl2.box 4 _ rfl; have n5 := hl2.box 5 _ rfl; have n6 := hl2.box 6 _ rfl; have n7 := hl2.box 7 _ rfl; have n8 := hl2.box 8 _ rfl; have n9 := hl2.box 9 _ rfl; have n10 := hl2.box 10 _ rfl; simp only [Nat.zero_add] at m0 m1 m2 m3 n0 n1 n2 n3 n4 n5 n6 n7 n8 n9 n10; have hx5 := HXC.out w5 HB5.out; have q5 := HQC.out w5 HB5.out; clear hl2 hbw)
                | fail)
              all_goals
                go_wp2_with fail
                go_meet
                try dsimp only [zeroC] at *
                first
                  | (with_reducible exact PlcCut.late (X := wr) (d := zeroC) _ (SliceR.nil_ 0 (Nat.zero_le _) none) HB5.out _ rfl none (fun d' h => by cases h) _ rfl)
                  | (with_reducible exact PlcCut.early (X := wr) (d := zeroC) HZ5.out (SliceR.nil_ 0 (Nat.zero_le _) none) HB5.out none (fun d' h => by cases h) _ rfl rfl)
                  | (exact PlcCut.late (X := wr) (d := zeroC) _ (SliceR.nil_ 0 (Nat.zero_le _) none) HB5.out _ rfl none (fun d' h => by cases h) _ rfl)
                  | (exact PlcCut.early (X := wr) (d := zeroC) HZ5.out (SliceR.nil_ 0 (Nat.zero_le _) none) HB5.out none (fun d' h => by cases h) _ rfl rfl)
            case rest =>
              obtain ⟨g, A5, c5, d0, rfl, rfl, hd, hrc⟩ := hcut
              have HRC := hid hrc
              have HB5 := hid hrc.below
              have hz5 := hrc.below.size
              clear hrc ne1 ne2 ne3 ne4 ne5 ne6 ne7 ne8 hx5 q5 m0 m1 m2 m3 n0 n1 n2 n3 n4 n5 n6 n7 n8 n9 n10
              go_wp2_with fail
              go_ret2
              exact ⟨bCl (KB.out wr HTR.out).2.1 HB5.out, .slice none 0 0, by rw [HRR.out]; rfl, by rw [HRR.out]; exact SliceR.nil_ 0 (Nat.zero_le _) none⟩
          | some d =>
            have HDO := hid (HOKK.out d rfl)
            clear HNO HOKK
            go_upto_region 9 with fail
            go_cut [11, 12] (fun p v wx => PlcCut wr (some d) p v wx)
            case first =>
              go_wp2_with fail
              go_region_held3 (fun w' => w'.cell? ⟨w.heap.size, 0, none⟩ = some (.int .i64 t.kind) ∧ w'.cell? ⟨w.heap.size, 1, none⟩ = some (.string t.text) ∧ w'.cell? ⟨w.heap.size, 2, none⟩ = some (.int .i64 t.cols) ∧ w'.cell? ⟨w.heap.size, 3, none⟩ = some (.slice A t.kids.length cap) ∧ w'.cell? ⟨w.heap.size + 1, 0, none⟩ = some (.int .i64 b.f.kind) ∧ w'.cell? ⟨w.heap.size + 1, 1, none⟩ = some (.string b.f.name) ∧ w'.cell? ⟨w.heap.size + 1, 2, none⟩ = some (.int .i64 b.f.size) ∧ w'.cell? ⟨w.heap.size + 1, 3, none⟩ = some (.int .i64 b.f.w) ∧ w'.cell? ⟨w.heap.size + 1, 4, none⟩ = some (.int .i64 b.f.h) ∧ w'.cell? ⟨w.heap.size + 1, 5, none⟩ = some (.int .i64 b.f.d) ∧ w'.cell? ⟨w.heap.size + 1, 6, none⟩ = some (.int .i64 b.f.x) ∧ w'.cell? ⟨w.heap.size + 1, 7, none⟩ = some (.int .i64 b.f.y) ∧ w'.cell? ⟨w.heap.size + 1, 8, none⟩ = some (.slice Ak b.kids.length ck) ∧ w'.cell? ⟨w.heap.size + 1, 9, none⟩ = some (.int .i64 b.f.of_) ∧ w'.cell? ⟨w.heap.size + 1, 10, none⟩ = some (.slice As b.f.src.length cs) ∧ w'.cell? ⟨gp, op + q.length, none⟩ = some (.int .i64 x) ∧ w'.cell? ⟨gl, ol + k, none⟩ = some (.slice (some ⟨gp, op, none⟩) (q.length + 1) cp)) (go_keep) (first
                | (go_at_call 43; (with_reducible refine (CRX.out _ HD1.out).mono ?_); rintro e w5 ⟨hb5, (⟨ho, _⟩ | ⟨d', v5, ho, rfl, hi5⟩)⟩; (case inl => cases ho); cases ho; obtain ⟨A5, c5, rfl⟩ := hi5.form; have HI5 := hid hi5; have HB5 : Hid (Below wr.heap.size wr w5) := bDr hb5; clear hb5 hi5 ; obtain ⟨hl2, hbw, _⟩ := KB.out w5 (bCl HTR.out HB5.out); have m0 := hl2.node 0 _ rfl; have m1 := hl2.node 1 _ rfl; have m2 := hl2.node 2 _ rfl; have m3 := hl2.node 3 _ rfl; have n0 := hl2.box 0 _ rfl; have n1 := hl2.box 1 _ rfl; have n2 := hl2.box 2 _ rfl; have n3 := hl2.box 3 _ rfl; have n4 := hl2.box 4 _ rfl; have n5 := hl2.box 5 _ rfl; have n6 := hl2.box 6 _ rfl; have n7 := hl2.box 7 _ rfl; have n8 := hl2.box 8 _ rfl; have n9 := hl2.box 9 _ rfl; have n10 := hl2.box 10 _ rfl; simp only [Nat.zero_add] at m0 m1 m2 m3 n0 n1 n2 n3 n4 n5 n6 n7 n8 n9 n10; have hx5 := HXC.out w5 HB5.out; have q5 := HQC.out w5 HB5.out; clear hl2 hbw)
                | (go_at_call 43; (with_reducible refine (CRX.out _ HD2.out).mono ?_); rintro e w5 ⟨hb5, (⟨ho, _⟩ | ⟨d', v5, ho, rfl, hi5⟩)⟩; (case inl => cases ho); cases ho; obtain ⟨A5, c5, rfl⟩ := hi5.form; have HI5 : Hid (IntsR w5 (fun k => wr.heap.size < k ∧ k < w5.heap.size) d.pos (.slice A5 d.pos.length c5)) := hi5.keep (fun _ _ => rfl) (fun k hk => ⟨Nat.lt_of_lt_of_le HZL.out hk.1, hk.2⟩); have HB5 : Hid (Below wr.heap.size wr w5) := bCl (bNew wr _).drew hb5; have HZ5 : Hid (HasObj w5 wr.heap.size (.cells #[.slice none 0 0, .int .i64 0, .int .i64 0, .int .i64 0] 36)) := ((HasObj.at0 wr _).dr).below hb5; obtain ⟨z0, z1, z2, z3, y0, y1, y2, y3⟩ := zfacts HZ5.out; clear hb5 hi5 ; obtain ⟨hl2, hbw, _⟩ := KB.out w5 (bCl HTR.out HB5.out); have m0 := hl2.node 0 _ rfl; have m1 := hl2.node 1 _ rfl; have m2 := hl2.node 2 _ rfl; have m3 := hl2.node 3 _ rfl; have n0 := hl2.box 0 _ rfl; have n1 := hl2.box 1 _ rfl; have n2 := hl2.box 2 _ rfl; have n3 := hl2.box 3 _ rfl; have n4 := hl2.box 4 _ rfl; have n5 := hl2.box 5 _ rfl; have n6 := hl2.box 6 _ rfl; have n7 := hl2.box 7 _ rfl; have n8 := hl2.box 8 _ rfl; have n9 := hl2.box 9 _ rfl; have n10 := hl2.box 10 _ rfl; simp only [Nat.zero_add] at m0 m1 m2 m3 n0 n1 n2 n3 n4 n5 n6 n7 n8 n9 n10; have hx5 := HXC.out w5 HB5.out; have q5 := HQC.out w5 HB5.out; clear hl2 hbw)
                | fail)
              all_goals
                go_wp2_with fail
                go_meet
                try dsimp only [zeroC] at *
                first
                  | (with_reducible exact PlcCut.late (X := wr) (d := d) _ HI5.out HB5.out _ rfl (some d) (fun d' h => Option.some.inj h) _ rfl)
                  | (with_reducible exact PlcCut.early (X := wr) (d := d) HZ5.out HI5.out HB5.out (some d) (fun d' h => Option.some.inj h) _ rfl rfl)
                  | (exact PlcCut.late (X := wr) (d := d) _ HI5.out HB5.out _ rfl (some d) (fun d' h => Option.some.inj h) _ rfl)
                  | (exact PlcCut.early (X := wr) (d := d) HZ5.out HI5.out HB5.out (some d) (fun d' h => Option.some.inj h) _ rfl rfl)
            case rest =>
              obtain ⟨g, A5, c5, d0, rfl, rfl, hd, hrc⟩ := hcut
              have HRC := hid hrc
              have HB5 := hid hrc.below
              have hz5 := hrc.below.size
              clear hrc ne1 ne2 ne3 ne4 ne5 ne6 ne7 ne8 hx5 q5 m0 m1 m2 m3 n0 n1 n2 n3 n4 n5 n6 n7 n8 n9 n10
              obtain rfl := hd d rfl
              have u0 := HRC.out.box 0 _ rfl
              have u1 := HRC.out.box 1 _ rfl
              have u2 := HRC.out.box 2 _ rfl
              have u3 := HRC.out.box 3 _ rfl
              simp only [Nat.zero_add] at u0 u1 u2 u3
              have HRD : Hid (carE.R wc (fun k => wr.heap.size ≤ k ∧ k < wc.heap.size) d0 #[.slice A5 d0.pos.length c5, .int .i64 d0.x, .int .i64 d0.top, .int .i64 d0.bottom].toList) := ⟨_, rfl, HDO.out, HRC.out.ints.keep (fun _ _ => rfl) (fun k hk => ⟨hk.1, hk.2.1⟩)⟩
              go_wp2_with first
                | (refine app_E (TS := 45) Tryz.underlying45 rcarInfoE rfl (by decide) rfl (.tmp 59) (.tmp 61) rfl w3.heap.size _ l [d0] rfl ((HO.out.below HB5.out).below (below_allocR _ _)) _ 1 1 rfl (one_E HRD.out hz3 (fun q hq => (HO.out.own_lt q hq).2) hz5 _ rfl _) (by simp; omega) (by simp; omega) ?_
                   intro v' w' ho' hb'
                   have HO' := hid ho'
                   have HB' := hid hb'
                   clear ho' hb')
              go_roundw
              case rel => exact ⟨((HBR.out.trans (HB5.out.mono hz3)).alloc (HBR.out.trans (HB5.out.mono hz3)).size _).trans HB'.out, k + 1, by omega, by go_num, l ++ [d0], by rw [HTK.out, HL.out]; rfl, HO'.out⟩
              case measure => simp [intOf]; omega
        · have i5 : decide ((k : Int) < (L.length : Int)) = false := by rw [decide_eq_false_iff_not]; omega
          have HRR : Hid (r = (l, 0)) := by
            show _ = _
            have h := HL.out
            rw [List.take_of_length_le hge] at h
            rw [HR.out, h]
          go_wp2_with fail
          go_ret2
          have h := HRR.out
          subst h
          have hbw3 := (KB.out w3 HT3.out).2.1
          exact ⟨bCl hbw3 HBR.out, _, rfl, HO.out.rows.keep (fun _ _ => rfl) (fun k hk => ⟨Nat.le_trans hbw3.size hk.1, hk.2⟩)⟩
end Go.Proofs.YtmahiejfniaahaaGreatDoor
