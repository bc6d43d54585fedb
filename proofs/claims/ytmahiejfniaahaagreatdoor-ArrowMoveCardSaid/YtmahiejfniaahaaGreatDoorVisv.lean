/- caret.lines$1 at any box. Written by wip/genvis.py. -/
import Derived.Test.YtmahiejfniaahaaGreatDoorHB
import Derived.Test.YtmahiejfniaahaaGreatDoorGA
import Derived.Deep.RegionHeld3
import Derived.Deep.DeepCutAuto
set_option linter.unusedVariables false
set_option linter.unusedSimpArgs false
set_option maxRecDepth 100000
namespace Go.Proofs.YtmahiejfniaahaaGreatDoor
open Go.RowKit
inductive GoodB : Bx → Prop
  | mk (f : BxF) (ks : List Bx) (hl : -1073741824 ≤ f.x ∧ f.x ≤ 1073741824 ∧ -1073741824 ≤ f.y ∧ f.y ≤ 1073741824 ∧ -1073741824 ≤ f.h ∧ f.h ≤ 1073741824 ∧ -1073741824 ≤ f.d ∧ f.d ≤ 1073741824)
      (hs : ∀ x ∈ f.src, 0 ≤ x ∧ In64 x) (hn : f.src.length ≤ 1000000) (hk : ∀ k ∈ ks, GoodB k) : GoodB (.mk f ks)
abbrev visV (q1 q2 : Nat) : Value := .func (.func 81) #[] #[.pointer (some ⟨q1, 0, none⟩), .pointer (some ⟨q2, 0, none⟩)]
def VisRes (bm n : Nat) (S : Nat → Prop) (L : List (Bx × Int × Int)) (w : World) (e : Ending) (w' : World) : Prop :=
  e = .returned (.tuple #[]) ∧ FoundM w' S bm n L ∧ OnlyM bm w.heap.size w w'
theorem cntsB_app : (us bs : List Bx) → cntsB (us ++ bs) = cntsB us + cntsB bs
  | [], bs => by simp [cntsB]
  | a :: us, bs => by rw [List.cons_append, cntsB, cntsB, cntsB_app us bs]; omega
theorem rowssB_app : (us bs : List Bx) → (x y : Int) → rowssB (us ++ bs) x y = rowssB us x y ++ rowssB bs x y
  | [], bs, x, y => by simp [rowssB]
  | a :: us, bs, x, y => by rw [List.cons_append, rowssB, rowssB, rowssB_app us bs, List.append_assoc]
theorem cntsB_take (ks : List Bx) {k : Nat} (hk : k < ks.length) : cntsB (ks.take (k + 1)) = cntsB (ks.take k) + cntB ks[k] := by
  rw [List.take_succ_eq_append_getElem hk, cntsB_app, cntsB, cntsB]; omega
theorem rowssB_take (ks : List Bx) {k : Nat} (hk : k < ks.length) (x y : Int) : rowssB (ks.take (k + 1)) x y = rowssB (ks.take k) x y ++ rowsB ks[k] (x + ks[k].f.x) (y + ks[k].f.y) := by
  rw [List.take_succ_eq_append_getElem hk, rowssB_app, rowssB, rowssB, List.append_nil]
theorem cntsB_le (ks : List Bx) (k : Nat) : cntsB (ks.take k) ≤ cntsB ks := by
  have h := cntsB_app (ks.take k) (ks.drop k)
  rw [List.take_append_drop] at h; omega
set_option maxHeartbeats 8000000 in
theorem bvisit_any (bm q1 q2 : Nat) (S : Nat → Prop) (hq : q1 ≠ bm ∧ q2 ≠ bm) (b : Bx) : ∀ (g o n : Nat) (x y M : Int) (L : List (Bx × Int × Int)) (w : World), BoxPl w S g o b → (∀ k, S k → k < w.heap.size ∧ k ≠ bm) → FoundM w S bm n L → GoodB b →
    w.cell? ⟨q1, 0, none⟩ = some (.map (some bm)) → w.cell? ⟨q2, 0, none⟩ = some (visV q1 q2) → (-M ≤ x ∧ x ≤ M ∧ -M ≤ y ∧ y ≤ M ∧ 0 ≤ M ∧ M + 2147483648 * cntB b ≤ 4611686018427387904) → n + cntB b ≤ 1000000 →
    (∀ W, OnlyM bm w.heap.size w W → Lib.TabIs Tryz.prog W "internal/strconv.uint64pow10" .u64 Lib.pow10Tab) →
    Calls Tryz.prog 81 #[.pointer (some ⟨g, o, none⟩), .int .i64 x, .int .i64 y, .pointer (some ⟨q1, 0, none⟩), .pointer (some ⟨q2, 0, none⟩)] w (VisRes bm (n + cntB b) S (L ++ rowsB b x y) w) := by
  induction b using Bx.ind with
  | h b ih =>
  intro g o n x y M L w hb hS hF hG hq1 hq2 hM hn htab
  obtain ⟨f, ks⟩ := b
  obtain ⟨-, -, hl, hs, hnl, hkg⟩ : True ∧ True ∧ (-1073741824 ≤ f.x ∧ f.x ≤ 1073741824 ∧ -1073741824 ≤ f.y ∧ f.y ≤ 1073741824 ∧ -1073741824 ≤ f.h ∧ f.h ≤ 1073741824 ∧ -1073741824 ≤ f.d ∧ f.d ≤ 1073741824) ∧ (∀ x ∈ f.src, 0 ≤ x ∧ In64 x) ∧ f.src.length ≤ 1000000 ∧ (∀ k ∈ ks, GoodB k) := by
    cases hG; exact ⟨trivial, trivial, by assumption, by assumption, by assumption, by assumption⟩
  have hb0 := hb
  obtain ⟨hgS, hfo, A, cap, vs, h11, hsrc, hkids⟩ := hb
  obtain ⟨As, cs, rfl⟩ := hsrc.form
  simp only [Bx.f, Bx.kids] at *
  obtain ⟨hgl, hgb⟩ := hS _ hgS
  have hq1l := cIn hq1
  have hq2l := cIn hq2
  have hbl := hF.lt
  have HC : Hid (∀ W, OnlyM bm w.heap.size w W → W.cell? ⟨g, o + 8, none⟩ = some (.slice A ks.length cap) ∧ W.cell? ⟨q1, 0, none⟩ = some (.map (some bm)) ∧ W.cell? ⟨q2, 0, none⟩ = some (visV q1 q2)) := fun W hW =>
    ⟨(hW.cell (p := ⟨g, o + 8, none⟩) hgl hgb).trans h11.c8, (hW.cell (p := ⟨q1, 0, none⟩) hq1l hq.1).trans hq1, (hW.cell (p := ⟨q2, 0, none⟩) hq2l hq.2).trans hq2⟩
  have hcn : cntB (.mk f ks) = 1 + cntsB ks := by rw [cntB]
  have HCN : Hid (cntB (.mk f ks) = 1 + cntsB ks ∧ n + 1 + cntsB ks ≤ 1000000) := ⟨hcn, by omega⟩
  have HIH : Hid (∀ k (hk : k < ks.length), ∃ gk ok, A = some ⟨gk, ok, none⟩ ∧ gk < w.heap.size ∧ gk ≠ bm ∧ w.cell? ⟨gk, ok + k * 11 + 6, none⟩ = some (.int .i64 ks[k].f.x) ∧ w.cell? ⟨gk, ok + k * 11 + 7, none⟩ = some (.int .i64 ks[k].f.y) ∧ (-9223372036854775808 ≤ x + ks[k].f.x ∧ x + ks[k].f.x ≤ 9223372036854775807 ∧ -9223372036854775808 ≤ y + ks[k].f.y ∧ y + ks[k].f.y ≤ 9223372036854775807) ∧
      ∀ W n' L', OnlyM bm w.heap.size w W → FoundM W S bm n' L' → n' + cntB ks[k] ≤ 1000000 → Calls Tryz.prog 81 #[.pointer (some ⟨gk, ok + k * 11, none⟩), .int .i64 (x + ks[k].f.x), .int .i64 (y + ks[k].f.y), .pointer (some ⟨q1, 0, none⟩), .pointer (some ⟨q2, 0, none⟩)] W (VisRes bm (n' + cntB ks[k]) S (L' ++ rowsB ks[k] (x + ks[k].f.x) (y + ks[k].f.y)) W)) := fun k hk => by
    obtain ⟨_, _, rs, hq', _, _, hrd, hls⟩ := hkids
    cases hq'
    obtain ⟨gk, ok, A', cap', vs', rfl, a1, a2, a3, a4, a5⟩ := boxes_at hrd hls hk
    have hgk := hkg _ (List.getElem_mem hk)
    have hck : cntB ks[k] ≤ cntsB ks := by have h1 := cntsB_take ks hk; have h2 := cntsB_le ks (k + 1); omega
    have hbx : -1073741824 ≤ ks[k].f.x ∧ ks[k].f.x ≤ 1073741824 ∧ -1073741824 ≤ ks[k].f.y ∧ ks[k].f.y ≤ 1073741824 := by
      cases hgk2 : ks[k] with
      | mk f2 ks2 => rw [hgk2] at hgk; cases hgk; simp only [Bx.f]; rename_i hl2 _ _ _; omega
    refine ⟨gk, ok, rfl, (hS _ a1).1, (hS _ a1).2, a2.c6, a2.c7, by omega, fun W n' L' hW hFW hn' => ?_⟩
    have hsm : Same S w W := hW.same hS
    exact ih _ (List.getElem_mem hk) gk (ok + k * 11) n' (x + ks[k].f.x) (y + ks[k].f.y) (M + 1073741824) L' W
      (BoxPl.keep ⟨a1, a3, A', cap', vs', a2, a4, a5⟩ hsm (fun _ h => h)) (fun k' hk' => ⟨Nat.lt_of_lt_of_le (hS _ hk').1 hW.size, (hS _ hk').2⟩) hFW hgk (HC.out W hW).2.1 (HC.out W hW).2.2 (by omega) hn'
      (fun W' hW' => htab W' (hW.trans (hW'.mono hW.size)))
  by_cases hof : f.of_ = 1
  · have i0 : (f.of_ == 1) = true := by simp [hof]
    have HRB : Hid (rowsB (.mk f ks) x y = [(.mk f ks, x, y)] ++ rowssB ks x y) := by show _ = _; rw [rowsB, if_pos hof]
    have CK : Hid (∀ W, Below w.heap.size w W → Calls Tryz.prog 78 #[.slice As f.src.length cs] W fun e w' => e = .returned (.string ⟨(keyS f.src).toArray⟩) ∧ Below W.heap.size W w') := fun W hW =>
      key_any f.src As cs W ((hsrc.keep (S' := Lt w.heap.size) (fun _ _ => rfl) (fun k hk => (hS k hk).1)).below hW hW.size) hnl (fun x hx => (hs x hx).2) (htab W (OnlyM.of_below hW))
    have hkl : (keyS f.src).length ≤ maxLen := by have := keyS_len f.src (fun x hx => (hs x hx).2); unfold maxLen; omega
    have c4 := h11.c4
    have c5 := h11.c5
    have c8 := h11.c8
    have c9 := h11.c9
    have c10 := h11.c10
    have hcell : ∀ j W, Below w.heap.size w W → W.cell? ⟨g, j, none⟩ = w.cell? ⟨g, j, none⟩ := fun j W hW => hW.cell (p := ⟨g, j, none⟩) hgl
    have HCELL := hid hcell
    have hF2 : ∀ W, Below w.heap.size w W → FoundM W S bm n L := fun W hW => hF.only hW hbl (fun k hk => (hS k hk).1)
    have HLK : Hid (∀ W, Below w.heap.size w W → match L.find? (isP f.src) with
        | none => (Instr.lookup 83 (.map (some bm)) (.string ⟨(keyS f.src).toArray⟩) true).run Tryz.prog W = .ok (.tuple #[.agg #[.pointer none, .int .i64 0, .int .i64 0, .int .i64 0], .bool false]) W
        | some r => ∃ g' o', (Instr.lookup 83 (.map (some bm)) (.string ⟨(keyS f.src).toArray⟩) true).run Tryz.prog W = .ok (.tuple #[.agg #[.pointer (some ⟨g', o', none⟩), .int .i64 r.2.1, .int .i64 (r.2.2 + r.1.f.h), .int .i64 (r.2.2 - r.1.f.d)], .bool true]) W) := fun W hW => by
      have h := (hF2 W hW).look f.src (fun x hx => (hs x hx).1) hkl
      cases hf : L.find? (isP f.src) with
      | none => rw [hf] at h; exact h
      | some r => rw [hf] at h; obtain ⟨g', o', _, h⟩ := h; exact ⟨g', o', h⟩
    cases hfd : L.find? (isP f.src) with
    | some r =>
      have HF0 : Hid (∀ W, Below w.heap.size w W → FoundM W S bm (n + 1) (L ++ [(.mk f ks, x, y)])) := fun W hW => ((hF2 W hW).again (.mk f ks, x, y) (by show (L.find? (isP f.src)).isSome = true; rw [hfd]; rfl)).mono (by omega)
      rw [hfd] at HLK
      generalize hkk : (⟨(keyS f.src).toArray⟩ : ByteArray) = key at *
      clear hb0 hs hl hn htab ih hG hF hkids hsrc hfo hkl hkg hF2 hcell h11 hfd hM hkk
      go_enter Tryz.func81, Tryz.ntmps81
      go_wp2_with fail
      refine (CK.out _ (Below.refl _ _)).mono ?_
      rintro e w1 ⟨rfl, hb1⟩
      have HB1 := hid hb1
      obtain ⟨g', o', hlk⟩ := HLK.out w1 hb1
      generalize r.2.1 = r1 at *
      generalize r.2.2 + r.1.f.h = r2 at *
      generalize r.2.2 - r.1.f.d = r3 at *
      have d8 := (HCELL.out _ w1 hb1).trans c8
      have e1 := (hb1.cell (p := ⟨q1, 0, none⟩) hq1l).trans hq1
      have e2 := (hb1.cell (p := ⟨q2, 0, none⟩) hq2l).trans hq2
      clear hb1 c4 c5 c8 c9 c10 hq1 hq2 HLK
      go_upto_region 5 with fail
      obtain ⟨w3, hW2⟩ : ∃ W2, w1.alloc (Obj.cells #[.pointer (some ⟨g', o', none⟩), .int .i64 r1, .int .i64 r2, .int .i64 r3] 115) = W2 := ⟨_, rfl⟩
      have hb2 : Below w1.heap.size w1 w3 := by rw [← hW2]; exact bNew _ _
      have HB2 : Hid (Below w.heap.size w w3) := HB1.out.trans (hb2.mono HB1.out.size)
      rw [hW2]
      have HOZ : Hid (OnlyM bm w.heap.size w w3) := OnlyM.of_below HB2.out
      have HFZ := hid (HF0.out w3 HB2.out)
      obtain ⟨z8, z1, z2⟩ := HC.out w3 HOZ.out
      clear hW2 hb2 d8 e1 e2 hlk
      go_wp2_with fail
      go_loopw [52] (fun i wr => OnlyM bm w.heap.size w wr ∧ ∃ k : Nat, k ≤ ks.length ∧ i = .int .i64 k ∧ FoundM wr S bm ((n + 1) + cntsB (ks.take k)) ((L ++ [(.mk f ks, x, y)]) ++ rowssB (ks.take k) x y)) (fun i _ => ks.length - (intOf i).toNat)
      case atStart => exact ⟨HOZ.out, 0, Nat.zero_le _, rfl, by simpa [cntsB, rowssB] using HFZ.out⟩
      case round =>
        obtain ⟨ho, k, hk, rfl, hf⟩ := hrel
        have HO := hid ho
        have HF := hid hf
        obtain ⟨y8, y1, y2⟩ := HC.out wr ho
        clear ho hf z8 z1 z2
        rcases Nat.lt_or_ge k ks.length with hlt | hge
        · obtain ⟨gk, ok, rfl, g1, g2, g3, g4, g5, hcall⟩ := HIH.out k hlt
          obtain ⟨b1, b2, b3, b4⟩ := g5
          have y6 := (HO.out.cell (p := ⟨gk, ok + k * 11 + 6, none⟩) g1 g2).trans g3
          have y7 := (HO.out.cell (p := ⟨gk, ok + k * 11 + 7, none⟩) g1 g2).trans g4
          have HCALL := hid (hcall wr.drew _ _ HO.out.drew (HF.out.keep (w' := wr.drew) rfl (fun _ _ => rfl) (fun _ h => h)) (by have h1 := cntsB_take ks hlt; have h2 := cntsB_le ks (k + 1); have := HCN.out.2; omega))
          have HY : Hid (∀ W, OnlyM bm w.heap.size w W → W.cell? ⟨gk, ok + k * 11 + 6, none⟩ = some (.int .i64 ks[k].f.x) ∧ W.cell? ⟨gk, ok + k * 11 + 7, none⟩ = some (.int .i64 ks[k].f.y)) := fun W hW => ⟨(hW.cell (p := ⟨gk, ok + k * 11 + 6, none⟩) g1 g2).trans g3, (hW.cell (p := ⟨gk, ok + k * 11 + 7, none⟩) g1 g2).trans g4⟩
          have HT1 := hid (cntsB_take ks hlt)
          have HT2 := hid (rowssB_take ks hlt x y)
          have i5 : decide ((k : Int) < (ks.length : Int)) = true := by rw [decide_eq_true_eq]; omega
          have i6 : (0 : Int) ≤ (k : Int) := by omega
          have i7 : (k : Int) < (ks.length : Int) := by omega
          have i8 : (ks.length : Int) ≤ 1000000 := by have h1 := cntsB_len ks; have h2 := HCN.out.2; omega
          clear hcall g3 g4
          generalize ks[k].f.x = kx at *
          generalize ks[k].f.y = ky at *
          have v1 : IntKind.i64.wrap (x + kx) = x + kx := IntWalk.i64_in _ (by omega)
          have v2 : IntKind.i64.wrap (y + ky) = y + ky := IntWalk.i64_in _ (by omega)
          go_upto_region 8 with fail
          go_region_held3 (fun w' => w'.cell? ⟨g, o + 8, none⟩ = some (.slice (some ⟨gk, ok, none⟩) ks.length cap) ∧ w'.cell? ⟨q1, 0, none⟩ = some (.map (some bm)) ∧ w'.cell? ⟨q2, 0, none⟩ = some (visV q1 q2) ∧ w'.cell? ⟨gk, ok + k * 11 + 6, none⟩ = some (.int .i64 kx) ∧ w'.cell? ⟨gk, ok + k * 11 + 7, none⟩ = some (.int .i64 ky)) (go_keep) (first | (go_at_call 81; (with_reducible refine HCALL.out.mono ?_); rintro e w8 ⟨rfl, hf8, ho8⟩; have HF8 := hid hf8; have HO8 : Hid (OnlyM bm w.heap.size w w8) := HO.out.trans (ho8.mono HO.out.size).drewL; clear hf8 ho8; obtain ⟨y8, y1, y2⟩ := HC.out w8 HO8.out; obtain ⟨y6, y7⟩ := HY.out w8 HO8.out))
          go_wp2_with fail
          go_roundw
          case rel =>
            refine ⟨HO8.out, k + 1, by omega, by go_num, ?_⟩
            rw [HT1.out, HT2.out, ← List.append_assoc, ← Nat.add_assoc]
            exact HF8.out
          case measure => simp [intOf]; omega
        · have i5 : decide ((k : Int) < (ks.length : Int)) = false := by rw [decide_eq_false_iff_not]; omega
          have hkl : k = ks.length := by omega
          have HFX := HF.out
          rw [hkl, List.take_length] at HFX
          have HFY := hid HFX
          clear HFX hkl
          go_wp2_with fail
          refine bodyPost_ret (v := .tuple #[]) (by simp [results, Tryz.results81, go_sem]) rfl ?_
          refine ⟨rfl, ?_, HO.out⟩
          rw [HRB.out, ← List.append_assoc]
          try rw [HCN.out.1]
          exact HFY.out.mono (by omega)
    | none =>
      have HMU : Hid (∀ W, Below w.heap.size w W → ∃ w', (Instr.mapUpdate 83 (.map (some bm)) (.string ⟨(keyS f.src).toArray⟩) (.agg #[.pointer (some ⟨g, o, none⟩), .int .i64 x, .int .i64 (y + f.h), .int .i64 (y - f.d)])).run Tryz.prog W = .ok () w' ∧ FoundM w' S bm (n + 1) (L ++ [(.mk f ks, x, y)]) ∧ OnlyM bm w.heap.size W w') := fun W hW => by
        obtain ⟨w', h1, h2, h3⟩ := (hF2 W hW).store (fun h => (hS bm h).2 rfl) (by unfold maxLen; omega) (.mk f ks) x y g o (hb0.keep (fun p hp => hW.cell (hS _ hp).1) (fun _ h => h)) (fun x hx => (hs x hx).1) hkl hfd
        exact ⟨w', h1, h2, OnlyM.of_turned h3⟩
      rw [hfd] at HLK
      have j1 : -9223372036854775808 ≤ y + f.h := by omega
      have j2 : y + f.h ≤ 9223372036854775807 := by omega
      have j3 : -9223372036854775808 ≤ y - f.d := by omega
      have j4 : y - f.d ≤ 9223372036854775807 := by omega
      have HB0 := hid hb0
      have HS := hid hS
      generalize hkk : (⟨(keyS f.src).toArray⟩ : ByteArray) = key at *
      clear hb0 hs hl hn htab ih hG hF hkids hsrc hfo hkl hkg hF2 hcell h11 hfd hM hkk
      go_enter Tryz.func81, Tryz.ntmps81
      go_wp2_with fail
      refine (CK.out _ (Below.refl _ _)).mono ?_
      rintro e w1 ⟨rfl, hb1⟩
      have HB1 := hid hb1
      have hlk := HLK.out w1 hb1
      have d4 := (HCELL.out _ w1 hb1).trans c4
      have d5 := (HCELL.out _ w1 hb1).trans c5
      have d8 := (HCELL.out _ w1 hb1).trans c8
      have d9 := (HCELL.out _ w1 hb1).trans c9
      have e1 := (hb1.cell (p := ⟨q1, 0, none⟩) hq1l).trans hq1
      have e2 := (hb1.cell (p := ⟨q2, 0, none⟩) hq2l).trans hq2
      clear hb1 c4 c5 c8 c9 c10 hq1 hq2
      go_upto_region 4 with fail
      obtain ⟨W2, hW2⟩ : ∃ W2, w1.alloc (Obj.cells #[.pointer none, .int .i64 0, .int .i64 0, .int .i64 0] 115) = W2 := ⟨_, rfl⟩
      have hb2 : Below w1.heap.size w1 W2 := by rw [← hW2]; exact bNew _ _
      have HB2 : Hid (Below w.heap.size w W2) := HB1.out.trans (hb2.mono HB1.out.size)
      have c4 := (HCELL.out _ W2 HB2.out).trans ((HCELL.out _ w1 HB1.out).symm.trans d4)
      have c5 := (HCELL.out _ W2 HB2.out).trans ((HCELL.out _ w1 HB1.out).symm.trans d5)
      have c8 := (HCELL.out _ W2 HB2.out).trans ((HCELL.out _ w1 HB1.out).symm.trans d8)
      have e3 := (hb2.cell (p := ⟨q1, 0, none⟩) (cIn e1)).trans e1
      have e4 := (hb2.cell (p := ⟨q2, 0, none⟩) (cIn e2)).trans e2
      obtain ⟨w3, hmu, hF3, ho3⟩ := HMU.out W2.drew HB2.out.drew
      rw [hW2]
      have HF3 := hid hF3
      have HO3 := hid ho3
      clear hW2 hb2 d4 d5 d8 d9 e1 e2 hlk hF3 ho3
      go_region
      have HOZ : Hid (OnlyM bm w.heap.size w w3) := ((OnlyM.of_below HB2.out.drew).trans HO3.out)
      have HFZ := HF3
      obtain ⟨z8, z1, z2⟩ := HC.out w3 HOZ.out
      clear hmu c4 c5 c8 e3 e4
      go_wp2_with fail
      go_loopw [52] (fun i wr => OnlyM bm w.heap.size w wr ∧ ∃ k : Nat, k ≤ ks.length ∧ i = .int .i64 k ∧ FoundM wr S bm ((n + 1) + cntsB (ks.take k)) ((L ++ [(.mk f ks, x, y)]) ++ rowssB (ks.take k) x y)) (fun i _ => ks.length - (intOf i).toNat)
      case atStart => exact ⟨HOZ.out, 0, Nat.zero_le _, rfl, by simpa [cntsB, rowssB] using HFZ.out⟩
      case round =>
        obtain ⟨ho, k, hk, rfl, hf⟩ := hrel
        have HO := hid ho
        have HF := hid hf
        obtain ⟨y8, y1, y2⟩ := HC.out wr ho
        clear ho hf z8 z1 z2
        rcases Nat.lt_or_ge k ks.length with hlt | hge
        · obtain ⟨gk, ok, rfl, g1, g2, g3, g4, g5, hcall⟩ := HIH.out k hlt
          obtain ⟨b1, b2, b3, b4⟩ := g5
          have y6 := (HO.out.cell (p := ⟨gk, ok + k * 11 + 6, none⟩) g1 g2).trans g3
          have y7 := (HO.out.cell (p := ⟨gk, ok + k * 11 + 7, none⟩) g1 g2).trans g4
          have HCALL := hid (hcall wr.drew _ _ HO.out.drew (HF.out.keep (w' := wr.drew) rfl (fun _ _ => rfl) (fun _ h => h)) (by have h1 := cntsB_take ks hlt; have h2 := cntsB_le ks (k + 1); have := HCN.out.2; omega))
          have HY : Hid (∀ W, OnlyM bm w.heap.size w W → W.cell? ⟨gk, ok + k * 11 + 6, none⟩ = some (.int .i64 ks[k].f.x) ∧ W.cell? ⟨gk, ok + k * 11 + 7, none⟩ = some (.int .i64 ks[k].f.y)) := fun W hW => ⟨(hW.cell (p := ⟨gk, ok + k * 11 + 6, none⟩) g1 g2).trans g3, (hW.cell (p := ⟨gk, ok + k * 11 + 7, none⟩) g1 g2).trans g4⟩
          have HT1 := hid (cntsB_take ks hlt)
          have HT2 := hid (rowssB_take ks hlt x y)
          have i5 : decide ((k : Int) < (ks.length : Int)) = true := by rw [decide_eq_true_eq]; omega
          have i6 : (0 : Int) ≤ (k : Int) := by omega
          have i7 : (k : Int) < (ks.length : Int) := by omega
          have i8 : (ks.length : Int) ≤ 1000000 := by have h1 := cntsB_len ks; have h2 := HCN.out.2; omega
          clear hcall g3 g4
          generalize ks[k].f.x = kx at *
          generalize ks[k].f.y = ky at *
          have v1 : IntKind.i64.wrap (x + kx) = x + kx := IntWalk.i64_in _ (by omega)
          have v2 : IntKind.i64.wrap (y + ky) = y + ky := IntWalk.i64_in _ (by omega)
          go_upto_region 8 with fail
          go_region_held3 (fun w' => w'.cell? ⟨g, o + 8, none⟩ = some (.slice (some ⟨gk, ok, none⟩) ks.length cap) ∧ w'.cell? ⟨q1, 0, none⟩ = some (.map (some bm)) ∧ w'.cell? ⟨q2, 0, none⟩ = some (visV q1 q2) ∧ w'.cell? ⟨gk, ok + k * 11 + 6, none⟩ = some (.int .i64 kx) ∧ w'.cell? ⟨gk, ok + k * 11 + 7, none⟩ = some (.int .i64 ky)) (go_keep) (first | (go_at_call 81; (with_reducible refine HCALL.out.mono ?_); rintro e w8 ⟨rfl, hf8, ho8⟩; have HF8 := hid hf8; have HO8 : Hid (OnlyM bm w.heap.size w w8) := HO.out.trans (ho8.mono HO.out.size).drewL; clear hf8 ho8; obtain ⟨y8, y1, y2⟩ := HC.out w8 HO8.out; obtain ⟨y6, y7⟩ := HY.out w8 HO8.out))
          go_wp2_with fail
          go_roundw
          case rel =>
            refine ⟨HO8.out, k + 1, by omega, by go_num, ?_⟩
            rw [HT1.out, HT2.out, ← List.append_assoc, ← Nat.add_assoc]
            exact HF8.out
          case measure => simp [intOf]; omega
        · have i5 : decide ((k : Int) < (ks.length : Int)) = false := by rw [decide_eq_false_iff_not]; omega
          have hkl : k = ks.length := by omega
          have HFX := HF.out
          rw [hkl, List.take_length] at HFX
          have HFY := hid HFX
          clear HFX hkl
          go_wp2_with fail
          refine bodyPost_ret (v := .tuple #[]) (by simp [results, Tryz.results81, go_sem]) rfl ?_
          refine ⟨rfl, ?_, HO.out⟩
          rw [HRB.out, ← List.append_assoc]
          try rw [HCN.out.1]
          exact HFY.out.mono (by omega)
  · have i0 : (f.of_ == 1) = false := by simpa using hof
    have HRB : Hid (rowsB (.mk f ks) x y = [] ++ rowssB ks x y) := by show _ = _; rw [rowsB, if_neg hof]
    have c9 := h11.c9
    obtain ⟨z8, z1, z2⟩ := HC.out w (OnlyM.refl _ _ _)
    have HOZ : Hid (OnlyM bm w.heap.size w w) := OnlyM.refl _ _ _
    have HFZ := hid hF
    generalize f.of_ = of_ at *
    clear hb0 hs hl hn htab ih hG hF hkids hsrc hfo hkg h11 hM hq1 hq2 hof
    go_enter Tryz.func81, Tryz.ntmps81
    go_wp2_with fail
    go_loopw [52] (fun i wr => OnlyM bm w.heap.size w wr ∧ ∃ k : Nat, k ≤ ks.length ∧ i = .int .i64 k ∧ FoundM wr S bm (n + cntsB (ks.take k)) ((L ++ []) ++ rowssB (ks.take k) x y)) (fun i _ => ks.length - (intOf i).toNat)
    case atStart => exact ⟨HOZ.out, 0, Nat.zero_le _, rfl, by simpa [cntsB, rowssB] using HFZ.out⟩
    case round =>
      obtain ⟨ho, k, hk, rfl, hf⟩ := hrel
      have HO := hid ho
      have HF := hid hf
      obtain ⟨y8, y1, y2⟩ := HC.out wr ho
      clear ho hf z8 z1 z2
      rcases Nat.lt_or_ge k ks.length with hlt | hge
      · obtain ⟨gk, ok, rfl, g1, g2, g3, g4, g5, hcall⟩ := HIH.out k hlt
        obtain ⟨b1, b2, b3, b4⟩ := g5
        have y6 := (HO.out.cell (p := ⟨gk, ok + k * 11 + 6, none⟩) g1 g2).trans g3
        have y7 := (HO.out.cell (p := ⟨gk, ok + k * 11 + 7, none⟩) g1 g2).trans g4
        have HCALL := hid (hcall wr.drew _ _ HO.out.drew (HF.out.keep (w' := wr.drew) rfl (fun _ _ => rfl) (fun _ h => h)) (by have h1 := cntsB_take ks hlt; have h2 := cntsB_le ks (k + 1); have := HCN.out.2; omega))
        have HY : Hid (∀ W, OnlyM bm w.heap.size w W → W.cell? ⟨gk, ok + k * 11 + 6, none⟩ = some (.int .i64 ks[k].f.x) ∧ W.cell? ⟨gk, ok + k * 11 + 7, none⟩ = some (.int .i64 ks[k].f.y)) := fun W hW => ⟨(hW.cell (p := ⟨gk, ok + k * 11 + 6, none⟩) g1 g2).trans g3, (hW.cell (p := ⟨gk, ok + k * 11 + 7, none⟩) g1 g2).trans g4⟩
        have HT1 := hid (cntsB_take ks hlt)
        have HT2 := hid (rowssB_take ks hlt x y)
        have i5 : decide ((k : Int) < (ks.length : Int)) = true := by rw [decide_eq_true_eq]; omega
        have i6 : (0 : Int) ≤ (k : Int) := by omega
        have i7 : (k : Int) < (ks.length : Int) := by omega
        have i8 : (ks.length : Int) ≤ 1000000 := by have h1 := cntsB_len ks; have h2 := HCN.out.2; omega
        clear hcall g3 g4
        generalize ks[k].f.x = kx at *
        generalize ks[k].f.y = ky at *
        have v1 : IntKind.i64.wrap (x + kx) = x + kx := IntWalk.i64_in _ (by omega)
        have v2 : IntKind.i64.wrap (y + ky) = y + ky := IntWalk.i64_in _ (by omega)
        go_upto_region 8 with fail
        go_region_held3 (fun w' => w'.cell? ⟨g, o + 8, none⟩ = some (.slice (some ⟨gk, ok, none⟩) ks.length cap) ∧ w'.cell? ⟨q1, 0, none⟩ = some (.map (some bm)) ∧ w'.cell? ⟨q2, 0, none⟩ = some (visV q1 q2) ∧ w'.cell? ⟨gk, ok + k * 11 + 6, none⟩ = some (.int .i64 kx) ∧ w'.cell? ⟨gk, ok + k * 11 + 7, none⟩ = some (.int .i64 ky)) (go_keep) (first | (go_at_call 81; (with_reducible refine HCALL.out.mono ?_); rintro e w8 ⟨rfl, hf8, ho8⟩; have HF8 := hid hf8; have HO8 : Hid (OnlyM bm w.heap.size w w8) := HO.out.trans (ho8.mono HO.out.size).drewL; clear hf8 ho8; obtain ⟨y8, y1, y2⟩ := HC.out w8 HO8.out; obtain ⟨y6, y7⟩ := HY.out w8 HO8.out))
        go_wp2_with fail
        go_roundw
        case rel =>
          refine ⟨HO8.out, k + 1, by omega, by go_num, ?_⟩
          rw [HT1.out, HT2.out, ← List.append_assoc, ← Nat.add_assoc]
          exact HF8.out
        case measure => simp [intOf]; omega
      · have i5 : decide ((k : Int) < (ks.length : Int)) = false := by rw [decide_eq_false_iff_not]; omega
        have hkl : k = ks.length := by omega
        have HFX := HF.out
        rw [hkl, List.take_length] at HFX
        have HFY := hid HFX
        clear HFX hkl
        go_wp2_with fail
        refine bodyPost_ret (v := .tuple #[]) (by simp [results, Tryz.results81, go_sem]) rfl ?_
        refine ⟨rfl, ?_, HO.out⟩
        rw [HRB.out, ← List.append_assoc]
        try rw [HCN.out.1]
        exact HFY.out.mono (by omega)
end Go.Proofs.YtmahiejfniaahaaGreatDoor
