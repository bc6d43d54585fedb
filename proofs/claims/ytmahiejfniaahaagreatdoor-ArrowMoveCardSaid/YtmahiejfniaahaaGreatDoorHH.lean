/- Texts put together: Chk, NVal, PosL, In. -/
import Derived.Test.YtmahiejfniaahaaGreatDoorHF
import Derived.Test.YtmahiejfniaahaaGreatDoorHG
import Derived.Test.YtmahiejfniaahaaGreatDoorGP
import Derived.Deep.RegionHeld3
import Derived.IntWalk
import Derived.Laws.Tables
import Derived.Laws.Rows
import Derived.Test.YtmahiejfniaahaaGreatDoorGQ
import Derived.Deep.QuietTactic
import Derived.BigQuiet
set_option linter.unusedVariables false
set_option linter.unusedSimpArgs false
set_option maxRecDepth 100000
namespace Go.Proofs.YtmahiejfniaahaaGreatDoor
open Go.RowKit
mutual
def okS : Tree → Int → Int → Bool
  | .mk k s c ts, m, d => decide (m + 1 ≤ 1000) && (decide (d ≤ 24) && ((textS k s && kidsS k c ts.length) && oksS k ts (m + 1) (d + 1)))
def oksS (k : Int) : List Tree → Int → Int → Bool
  | [], _, _ => true
  | t :: ts, m, d => !((t.kind == 1) == (k == 1)) && (okS t m d && oksS k ts (m + countS t) d)
end
theorem oksS_drop (k m d : Int) {ts : List Tree} {i : Nat} (h : i < ts.length) :
    oksS k (ts.drop i) (m + (countsS (ts.take i) : Nat)) d = (!((ts[i].kind == 1) == (k == 1)) && (okS ts[i] (m + (countsS (ts.take i) : Nat)) d && oksS k (ts.drop (i + 1)) (m + (countsS (ts.take (i + 1)) : Nat)) d)) := by
  rw [List.drop_eq_getElem_cons h, oksS, countsS_take h, show m + ((countsS (ts.take i) + countS ts[i] : Nat) : Int) = m + (countsS (ts.take i) : Nat) + countS ts[i] by omega]
mutual
theorem okS_eq : (t : Tree) → (m d : Int) → okS t m d = (formS t && (decide (m + countS t ≤ 1000) && decide (d + depthS t ≤ 25)))
  | .mk k s c ts, m, d => by
    rw [okS, oksS_eq k ts (m + 1) (d + 1), formS, countS, depthS, Bool.eq_iff_iff]
    simp only [Bool.and_eq_true, decide_eq_true_eq]
    constructor
    · rintro ⟨h1, h2, h3, h4, h5⟩
      refine ⟨⟨h3, h4⟩, ?_⟩
      rcases h5 with rfl | h5
      · simp only [countsS, depthsS]; omega
      · omega
    · rintro ⟨⟨h3, h4⟩, h5, h6⟩
      refine ⟨by omega, by omega, h3, h4, ?_⟩
      rcases ts with _ | ⟨t, ts⟩
      · exact .inl rfl
      · exact .inr (by omega)
theorem oksS_eq (k : Int) : (ts : List Tree) → (m d : Int) → oksS k ts m d = (formsS k ts && decide (ts = [] ∨ (m + countsS ts ≤ 1000 ∧ d + depthsS ts ≤ 25)))
  | [], m, d => by rw [oksS, formsS]; simp
  | t :: ts, m, d => by
    rw [oksS, okS_eq t m d, oksS_eq k ts (m + countS t) d, formsS_cons, countsS, depthsS, Bool.eq_iff_iff]
    simp only [Bool.and_eq_true, decide_eq_true_eq, reduceCtorEq, false_or]
    constructor
    · rintro ⟨h1, ⟨h2, h3, h4⟩, h5, h6⟩
      refine ⟨⟨⟨h1, h2⟩, h5⟩, ?_⟩
      rcases h6 with rfl | h6
      · simp only [countsS, depthsS]; omega
      · omega
    · rintro ⟨⟨⟨h1, h2⟩, h5⟩, h3, h4⟩
      exact ⟨h1, ⟨h2, by omega, by omega⟩, h5, .inr (by omega)⟩
end
def NodeAt (w : World) (S : Nat → Prop) (g o : Nat) (t : Tree) (A : Option Addr) (cap : Nat) (rs : List Value) : Prop :=
  (w.cell? ⟨g, o, none⟩ = some (.int .i64 t.kind) ∧ w.cell? ⟨g, o + 1, none⟩ = some (.string t.text) ∧ w.cell? ⟨g, o + 2, none⟩ = some (.int .i64 t.cols) ∧ w.cell? ⟨g, o + 3, none⟩ = some (.slice A t.kids.length cap)) ∧
    S g ∧ t.text.size ≤ maxLen ∧ t.kids.length ≤ cap ∧ cap ≤ maxLen ∧ Reads w S A rs ∧ ListR treeE w S t.kids rs
theorem NodeAt.below {w w' : World} {B g o : Nat} {t : Tree} {A : Option Addr} {cap : Nat} {rs : List Value} (h : NodeAt w (Lt B) g o t A cap rs) (hb : Below B w w') : NodeAt w' (Lt B) g o t A cap rs := by
  obtain ⟨⟨h0, h1, h2, h3⟩, hg, h4, h5, h6, h7, h8⟩ := h
  have hc := (bcell hb).1
  exact ⟨⟨(hc _ _ hg).trans h0, (hc _ _ hg).trans h1, (hc _ _ hg).trans h2, (hc _ _ hg).trans h3⟩, hg, h4, h5, h6, h7.keep (Same.of_below hb (Nat.le_refl _)) (fun _ h => h), h8.keep (Same.of_below hb (Nat.le_refl _)) (fun _ h => h)⟩
def Chk (w : World) (B : Nat) (m : Int) : Prop := Cells w B ∧ w.cell? ⟨B, 39, none⟩ = some (.int .i64 m) ∧ w.frozen? ⟨B, 39, none⟩ = false
theorem cell_other {w : World} {B i j : Nat} {v : Value} (h : i ≠ j) : (w.setCell ⟨B, i, none⟩ v).cell? ⟨B, j, none⟩ = w.cell? ⟨B, j, none⟩ := by
  have o : (⟨B, i, none⟩ : Addr) ≠ ⟨B, j, none⟩ := fun e => h (by injection e)
  rw [World.cell?_setCell_other (h := o)]
theorem Chk.set {w : World} {B : Nat} {m : Int} (h : Chk w B m) (m' : Int) : Chk (w.setCell ⟨B, 39, none⟩ (.int .i64 m')) B m' := by
  obtain ⟨hc, h1, h2⟩ := h
  refine ⟨?_, World.cell?_setCell_same _ _ _ h1, by rw [World.frozen?_setCell]; exact h2⟩
  unfold Cells at *
  simp only [cell_other (show (39 : Nat) ≠ 4 by decide), cell_other (show (39 : Nat) ≠ 5 by decide), cell_other (show (39 : Nat) ≠ 7 by decide), cell_other (show (39 : Nat) ≠ 8 by decide), cell_other (show (39 : Nat) ≠ 10 by decide), cell_other (show (39 : Nat) ≠ 11 by decide),
    cell_other (show (39 : Nat) ≠ 13 by decide), cell_other (show (39 : Nat) ≠ 14 by decide), cell_other (show (39 : Nat) ≠ 16 by decide), cell_other (show (39 : Nat) ≠ 17 by decide), cell_other (show (39 : Nat) ≠ 19 by decide), cell_other (show (39 : Nat) ≠ 20 by decide),
    cell_other (show (39 : Nat) ≠ 22 by decide), cell_other (show (39 : Nat) ≠ 23 by decide), cell_other (show (39 : Nat) ≠ 25 by decide), cell_other (show (39 : Nat) ≠ 26 by decide), cell_other (show (39 : Nat) ≠ 28 by decide), cell_other (show (39 : Nat) ≠ 29 by decide),
    cell_other (show (39 : Nat) ≠ 31 by decide), cell_other (show (39 : Nat) ≠ 32 by decide), cell_other (show (39 : Nat) ≠ 34 by decide), cell_other (show (39 : Nat) ≠ 35 by decide), cell_other (show (39 : Nat) ≠ 37 by decide), cell_other (show (39 : Nat) ≠ 38 by decide)]
  exact hc
theorem Chk.drew {w : World} {B : Nat} {m : Int} (h : Chk w B m) (n : Nat) : Chk (w.drewN n) B m := h
def ChkPost (B : Nat) (w : World) (t : Tree) (m d : Int) (e : Ending) (w' : World) : Prop :=
  e = .returned (.bool (okS t m d)) ∧ Below B w w' ∧ (okS t m d = true → Chk w' B (m + countS t))
set_option maxHeartbeats 4000000 in
theorem chk_any (t : Tree) : ∀ (w : World) (B g o : Nat) (A : Option Addr) (cap : Nat) (rs : List Value) (m d : Int) (_ : NodeAt w (Lt B) g o t A cap rs) (_ : Chk w B m) (_ : 0 ≤ m ∧ m ≤ 1000) (_ : 0 ≤ d ∧ d ≤ 1000),
    Calls Tryz.prog 92 #[.pointer (some ⟨B, 0, none⟩), .pointer (some ⟨g, o, none⟩), .int .i64 d] w (ChkPost B w t m d) := by
  induction t using Tree.ind with
  | h t ih =>
  obtain ⟨tk, tx, tc, ts⟩ := t
  intro w B g o A cap rs m d hN hC ⟨hm0, hm1⟩ ⟨hd0, hd1⟩
  have HNA := hid hN
  obtain ⟨⟨c0, c1, c2, c3⟩, hg, htx, hcap, hmax, hrd, hls⟩ := hN
  simp only [Tree.kind, Tree.text, Tree.cols, Tree.kids] at *
  have hlen : ts.length ≤ 9223372036854775807 := by unfold maxLen at hmax; omega
  have HS : Hid (okS (.mk tk tx tc ts) m d = (decide (m + 1 ≤ 1000) && (decide (d ≤ 24) && ((textS tk tx && kidsS tk tc ts.length) && oksS tk ts (m + 1) (d + 1))))) := by show _ = _; rw [okS]
  have HCN : Hid (countS (.mk tk tx tc ts) = 1 + countsS ts) := by show _ = _; rw [countS]
  have HB1 : Hid (Below B w (w.setCell ⟨B, 39, none⟩ (.int .i64 (m + 1)))) := by show Below _ _ _; exact (Below.refl B w).setCell (p := ⟨B, 39, none⟩) (Nat.le_refl _) _
  have HC1 := hid (hC.set (m + 1))
  have k39 := hC.2.1
  have f39 := hC.2.2
  have HIH := hid ih
  clear hC hrd hls ih
  by_cases h1 : m + 1 ≤ 1000
  rotate_left
  · have d1 : decide (1000 < m + 1) = true := by simp; omega
    have HF : Hid (okS (.mk tk tx tc ts) m d = false) := by show _ = _; rw [HS.out, decide_eq_false h1]; rfl
    go_enter Tryz.func92, Tryz.ntmps92
    go_wp2_with fail
    go_ret
    refine ⟨by rw [HF.out]; rfl, HB1.out, fun h => ?_⟩
    rw [HF.out] at h; cases h
  have d1 : decide (1000 < m + 1) = false := by simp; omega
  by_cases h2 : d ≤ 24
  rotate_left
  · have d2 : decide (24 < d) = true := by simp; omega
    have HF : Hid (okS (.mk tk tx tc ts) m d = false) := by show _ = _; rw [HS.out, decide_eq_false h2]; simp
    go_enter Tryz.func92, Tryz.ntmps92
    go_wp2_with fail
    go_ret
    refine ⟨by rw [HF.out]; rfl, HB1.out, fun h => ?_⟩
    rw [HF.out] at h; cases h
  have d2 : decide (24 < d) = false := by simp; omega
  have HO : Hid (Calls Tryz.prog 120 #[.pointer (some ⟨B, 0, none⟩), .pointer (some ⟨g, o, none⟩)] (w.setCell ⟨B, 39, none⟩ (.int .i64 (m + 1))) fun e w' => e = .returned (.bool (textS tk tx && kidsS tk tc ts.length)) ∧ ∃ n, w' = (w.setCell ⟨B, 39, none⟩ (.int .i64 (m + 1))).drewN n) := by
    obtain ⟨⟨q0, q1, q2, q3⟩, _⟩ := HNA.out.below HB1.out
    exact own_any tk tc tx A ts.length cap B g o _ (by omega) htx q0 q1 q2 q3 HC1.out.1
  have HS2 : Hid (okS (.mk tk tx tc ts) m d = ((textS tk tx && kidsS tk tc ts.length) && oksS tk ts (m + 1) (d + 1))) := by show _ = _; rw [HS.out, decide_eq_true h1, decide_eq_true h2]; rfl
  generalize (textS tk tx && kidsS tk tc ts.length) = b at *
  clear HS
  cases b
  · have HF : Hid (okS (.mk tk tx tc ts) m d = false) := by show _ = _; rw [HS2.out]; rfl
    go_enter Tryz.func92, Tryz.ntmps92
    go_wp2_with fail
    refine HO.out.mono ?_
    rintro e w1 ⟨rfl, n1, rfl⟩
    have HB2 : Hid (Below B w ((w.setCell ⟨B, 39, none⟩ (.int .i64 (m + 1))).drewN n1)) := HB1.out.trans ⟨rfl, rfl, rfl, Nat.le_refl _, fun _ _ => rfl⟩
    go_wp2_with fail
    go_ret
    refine ⟨by rw [HF.out]; rfl, HB2.out, fun h => ?_⟩
    rw [HF.out] at h; cases h
  · have HS3 : Hid (okS (.mk tk tx tc ts) m d = oksS tk ts (m + 1) (d + 1)) := by show _ = _; rw [HS2.out]; rfl
    go_enter Tryz.func92, Tryz.ntmps92
    go_wp2_with fail
    refine HO.out.mono ?_
    rintro e w1 ⟨rfl, n1, hw1⟩
    have HB2 : Hid (Below B w w1) := by rw [hw1]; exact HB1.out.trans ⟨rfl, rfl, rfl, Nat.le_refl _, fun _ _ => rfl⟩
    have HC2 : Hid (Chk w1 B (m + 1)) := by rw [hw1]; exact HC1.out.drew n1
    have c3' := (HNA.out.below HB2.out).1.2.2.2
    simp only [Tree.kids] at c3'
    clear hw1 HO HC1 HB1 c0 c1 c2 c3 k39 f39 d1 d2 HS2
    go_wp2_with fail
    go_loopw [35] (fun i wr => Below B w wr ∧ ∃ (k : Nat), k ≤ ts.length ∧ i = .int .i64 k ∧ Chk wr B (m + 1 + (countsS (ts.take k) : Nat)) ∧ m + 1 + (countsS (ts.take k) : Nat) ≤ 1000 ∧ oksS tk (ts.drop k) (m + 1 + (countsS (ts.take k) : Nat)) (d + 1) = oksS tk ts (m + 1) (d + 1)) (fun i _ => ts.length - (intOf i).toNat)
    case atStart => exact ⟨HB2.out, 0, Nat.zero_le _, rfl, by simpa [countsS] using HC2.out, by simp [countsS]; omega, by simp [countsS]⟩
    case round =>
      obtain ⟨hb, k, hk, rfl, hck, hle, hrest⟩ := hrel
      have HR := hid hrest
      have HB := hid hb
      have HCK := hid hck
      obtain ⟨⟨c0, c1, c2, c3⟩, _, _, _, _, hrd, hls⟩ := HNA.out.below hb
      simp only [Tree.kind, Tree.text, Tree.cols, Tree.kids] at c0 c1 c2 c3 hls
      clear hrest hb hck c3'
      by_cases hlt : k < ts.length
      · obtain ⟨g', o', A', cap', rs', rfl, hg', e0, e1, e2, e3, _, _, hts, hc5, hc6, hrd', hls'⟩ := trees_at hrd hls hlt
        have HK : Hid (NodeAt wr (Lt B) g' (o' + k * 4) ts[k] A' cap' rs') := ⟨⟨e0, e1, e2, e3⟩, hg', hts, hc5, hc6, hrd', hls'⟩
        have hmem : ts[k] ∈ ts := List.getElem_mem hlt
        have HT := hid (oksS_drop tk (m + 1) (d + 1) hlt)
        have i0 : (k : Int) < (ts.length : Int) := by omega
        have HM : Hid (0 ≤ m + 1 + (countsS (ts.take k) : Nat) ∧ m + 1 + (countsS (ts.take k) : Nat) ≤ 1000) := by show _ ∧ _; omega
        have HCO : Hid (m + 1 + ((countsS (ts.take (k + 1)) : Nat) : Int) = m + 1 + (countsS (ts.take k) : Nat) + countS ts[k]) := by show _ = _; rw [countsS_take hlt]; omega
        generalize hmm : m + 1 + ((countsS (ts.take k) : Nat) : Int) = M at *
        have HCC : Hid (Calls Tryz.prog 92 #[.pointer (some ⟨B, 0, none⟩), .pointer (some ⟨g', o' + k * 4, none⟩), .int .i64 (d + 1)] wr.drew (ChkPost B wr.drew ts[k] M (d + 1))) :=
          HIH.out ts[k] hmem wr.drew B g' (o' + k * 4) A' cap' rs' M (d + 1) (HK.out.below ⟨rfl, rfl, rfl, Nat.le_refl _, fun _ _ => rfl⟩) (HCK.out.drew 1) HM.out (by omega)
        have KW : Hid (∀ W, Below B wr W → (W.cell? ⟨g, o, none⟩ = some (.int .i64 tk) ∧ W.cell? ⟨g, o + 3, none⟩ = some (.slice (some ⟨g', o', none⟩) ts.length cap) ∧ W.cell? ⟨g', o' + k * 4, none⟩ = some (.int .i64 ts[k].kind))) := by
          intro W hW
          have h := (bcell hW).1
          exact ⟨(h _ _ hg).trans c0, (h _ _ hg).trans c3, (h _ _ hg').trans e0⟩
        have HOK1 : Hid (okS ts[k] M (d + 1) = true → M + countS ts[k] ≤ 1000) := fun h => by
          rw [okS_eq] at h
          simp only [Bool.and_eq_true, decide_eq_true_eq] at h
          exact h.2.1
        have hgB : g < B := hg
        have hgB' : g' < B := hg'
        clear hrd hls hrd' hls' hc5 hc6 hts hle HIH hmm c1 c2 e1 e2 e3
        cases hq1 : (ts[k].kind == 1) <;> cases hq2 : (tk == 1)
        case false.false | true.true =>
          rw [hq1, hq2] at HT
          have HF : Hid (okS (.mk tk tx tc ts) m d = false) := by show _ = _; rw [HS3.out, ← HR.out, HT.out]; rfl
          go_wp2_with fail
          go_quiet (fail)
          go_wp2_with fail
          go_ret
          refine ⟨by rw [HF.out]; rfl, by first | exact HB.out | exact HB.out.trans ⟨rfl, rfl, rfl, Nat.le_refl _, fun _ _ => rfl⟩, fun h => ?_⟩
          rw [HF.out] at h; cases h
        all_goals
          rw [hq1, hq2] at HT
          generalize hb3 : okS ts[k] M (d + 1) = b3 at *
          unfold ChkPost at HCC
          rw [hb3] at HCC
          clear hb3
          cases b3
          · have HF : Hid (okS (.mk tk tx tc ts) m d = false) := by show _ = _; rw [HS3.out, ← HR.out, HT.out]; rfl
            have wd : IntKind.i64.wrap (d + 1) = d + 1 := IntWalk.i64_in _ (by omega)
            go_wp2_with fail
            go_region_held3 (fun w' => w'.cell? ⟨g, o, none⟩ = some (.int .i64 tk) ∧ w'.cell? ⟨g, o + 3, none⟩ = some (.slice (some ⟨g', o', none⟩) ts.length cap) ∧ w'.cell? ⟨g', o' + k * 4, none⟩ = some (.int .i64 ts[k].kind)) (go_keep) (first
              | (go_at_call 92; with_reducible refine HCC.out.mono ?_; rintro e w3 ⟨rfl, hb3, _⟩; obtain ⟨p1, p2, p3⟩ := KW.out w3 (below_drew_of hb3); have HP := hid (HB.out.trans (below_drew_of hb3)); clear hb3))
            clear wd
            go_wp2_with fail
            go_ret
            refine ⟨by rw [HF.out]; rfl, HP.out, fun h => ?_⟩
            rw [HF.out] at h; cases h
          · have HF : Hid (oksS tk (ts.drop (k + 1)) (m + 1 + (countsS (ts.take (k + 1)) : Nat)) (d + 1) = oksS tk ts (m + 1) (d + 1)) := by show _ = _; rw [← HR.out, HT.out]; rfl
            have wd : IntKind.i64.wrap (d + 1) = d + 1 := IntWalk.i64_in _ (by omega)
            go_wp2_with fail
            go_region_held3 (fun w' => w'.cell? ⟨g, o, none⟩ = some (.int .i64 tk) ∧ w'.cell? ⟨g, o + 3, none⟩ = some (.slice (some ⟨g', o', none⟩) ts.length cap) ∧ w'.cell? ⟨g', o' + k * 4, none⟩ = some (.int .i64 ts[k].kind)) (go_keep) (first
              | (go_at_call 92; with_reducible refine HCC.out.mono ?_; rintro e w3 ⟨rfl, hb3, hck3⟩; obtain ⟨p1, p2, p3⟩ := KW.out w3 (below_drew_of hb3); have HP := hid (HB.out.trans (below_drew_of hb3)); have HCK3 := hid (hck3 trivial); clear hb3 hck3))
            clear wd
            go_wp2_with fail
            go_roundw
            case rel => exact ⟨HP.out, k + 1, by omega, by go_num, by rw [HCO.out]; exact HCK3.out, by rw [HCO.out]; exact HOK1.out trivial, HF.out⟩
            case measure => simp [intOf]; omega
      · have HT : Hid (ts.take k = ts) := List.take_of_length_le (by omega)
        have HF : Hid (okS (.mk tk tx tc ts) m d = true) := by show _ = _; rw [HS3.out, ← HR.out, List.drop_of_length_le (by omega), oksS]
        rw [HT.out] at HCK
        clear hrd hls c0 c1 c2 c3
        go_wp2_with fail
        go_ret
        refine ⟨by rw [HF.out]; rfl, HB.out, fun _ => ?_⟩
        rw [HCN.out, show m + ((1 + countsS ts : Nat) : Int) = m + 1 + (countsS ts : Nat) by omega]
        exact HCK.out
end Go.Proofs.YtmahiejfniaahaaGreatDoor
set_option linter.unusedVariables false
set_option linter.unusedSimpArgs false
set_option maxRecDepth 100000
namespace Go.Proofs.YtmahiejfniaahaaGreatDoor
open Go.RowKit
def kindsC : Array Value := #[.string ⟨#[]⟩, .int .i64 0, .nilFunc, .string ⟨#[114, 111, 119]⟩, .int .i64 0, .func (.func 114) #[] #[], .string ⟨#[115, 121, 109]⟩, .int .i64 0, .func (.func 115) #[] #[], .string ⟨#[110, 117, 109]⟩, .int .i64 0, .func (.func 116) #[] #[], .string ⟨#[116, 101, 120, 116]⟩, .int .i64 0, .func (.func 117) #[] #[], .string ⟨#[102, 114, 97, 99]⟩, .int .i64 2, .func (.func 114) #[] #[], .string ⟨#[114, 111, 111, 116]⟩, .int .i64 2, .func (.func 114) #[] #[], .string ⟨#[115, 117, 98]⟩, .int .i64 2, .func (.func 114) #[] #[], .string ⟨#[115, 117, 112]⟩, .int .i64 2, .func (.func 114) #[] #[], .string ⟨#[98, 111, 116, 104]⟩, .int .i64 3, .func (.func 114) #[] #[], .string ⟨#[97, 99, 99, 101, 110, 116]⟩, .int .i64 1, .func (.func 118) #[] #[], .string ⟨#[102, 101, 110, 99, 101]⟩, .int .i64 1, .func (.func 119) #[] #[], .string ⟨#[109, 97, 116, 114, 105, 120]⟩, .int .i64 0, .func (.func 114) #[] #[]]
def chkC : Array Value := #[.string ⟨#[]⟩, .int .i64 0, .nilFunc, .string ⟨#[114, 111, 119]⟩, .int .i64 0, .func (.func 114) #[] #[], .string ⟨#[115, 121, 109]⟩, .int .i64 0, .func (.func 115) #[] #[], .string ⟨#[110, 117, 109]⟩, .int .i64 0, .func (.func 116) #[] #[], .string ⟨#[116, 101, 120, 116]⟩, .int .i64 0, .func (.func 117) #[] #[], .string ⟨#[102, 114, 97, 99]⟩, .int .i64 2, .func (.func 114) #[] #[], .string ⟨#[114, 111, 111, 116]⟩, .int .i64 2, .func (.func 114) #[] #[], .string ⟨#[115, 117, 98]⟩, .int .i64 2, .func (.func 114) #[] #[], .string ⟨#[115, 117, 112]⟩, .int .i64 2, .func (.func 114) #[] #[], .string ⟨#[98, 111, 116, 104]⟩, .int .i64 3, .func (.func 114) #[] #[], .string ⟨#[97, 99, 99, 101, 110, 116]⟩, .int .i64 1, .func (.func 118) #[] #[], .string ⟨#[102, 101, 110, 99, 101]⟩, .int .i64 1, .func (.func 119) #[] #[], .string ⟨#[109, 97, 116, 114, 105, 120]⟩, .int .i64 0, .func (.func 114) #[] #[], .int .i64 0]
theorem wpList_build_at {P : Program} {ops : Array Oper} {rest : List Oper} {o : Oper} {a : Act} {w : World} {Q : Exit → Act → World → Prop} (hg : o.guard = none) (t : TypeId) (parts : Array (Nat × Operand)) (ho : o.op = .build t parts)
    (cells : Array Value) (hf : P.built t (parts.map fun (i, x) => (i, a.eval x)).toList = some cells)
    (h : wpList P ops Q rest (a.put o.dst (.agg cells)) w) : wpList P ops Q (o :: rest) a w :=
  wpList_build hg t parts ho (by rw [hf]; rfl) (by rw [hf]; exact h)
theorem below_row (w : World) (old cs : Array Value) (t : TypeId) : Below w.heap.size w ((w.alloc (.cells old t)).setRow w.heap.size cs) :=
  ⟨rfl, rfl, rfl, by simp, fun k hk => by rw [setRow_other _ _ _ _ (by omega)]; exact heap_alloc_old _ _ hk⟩
set_option maxHeartbeats 1000000 in
theorem kinds_any (w : World) : Calls Tryz.prog 91 #[] w fun e w' => e = .returned (.agg kindsC) ∧ Below w.heap.size w w' := by
  go_enter Tryz.func91, Tryz.ntmps91
  go_wp2_with (first
    | (refine wpList_build_at rfl 132 _ rfl kindsC (by kernel_rfl) ?_)
    | (refine wpList_store_row rfl 132 (.tmp 0) (.tmp 13) rfl w.heap.size kindsC rfl rfl 132 _ (heap_alloc_new w _) (by kernel_rfl) (by kernel_rfl) (by kernel_rfl) ?_))
  exact bodyPost_ret (v := .agg kindsC) (results_cell_row Tryz.results91 _ _ w.heap.size 132 kindsC (0, 0) _ rfl (setRow_heap _ _ _ _ _ _ (heap_alloc_new w _)) Tryz.underlying132 rfl (by kernel_rfl)) rfl ⟨rfl, below_row w _ _ _⟩
theorem chk_new (w : World) (e : TypeId) : Chk (w.alloc (.cells chkC e)) w.heap.size 0 := by
  unfold Chk Cells
  simp only [World.cell?_alloc_new]
  refine ⟨?_, by kernel_rfl, World.frozen?_alloc_new _ _ _ _⟩
  refine ⟨⟨by kernel_rfl, by kernel_rfl⟩, ⟨by kernel_rfl, by kernel_rfl⟩, ⟨by kernel_rfl, by kernel_rfl⟩, ⟨by kernel_rfl, by kernel_rfl⟩, ⟨by kernel_rfl, by kernel_rfl⟩, ⟨by kernel_rfl, by kernel_rfl⟩, ⟨by kernel_rfl, by kernel_rfl⟩, ⟨by kernel_rfl, by kernel_rfl⟩, ⟨by kernel_rfl, by kernel_rfl⟩, ⟨by kernel_rfl, by kernel_rfl⟩, ⟨by kernel_rfl, by kernel_rfl⟩, ⟨by kernel_rfl, by kernel_rfl⟩⟩
theorem validS_ok (t : Tree) : validS t = ((t.kind == 1) && okS t 0 1) := by
  unfold validS
  rw [okS_eq, Bool.eq_iff_iff]
  simp only [Bool.and_eq_true, decide_eq_true_eq]
  constructor
  · rintro ⟨⟨⟨a, b⟩, c⟩, d⟩; exact ⟨a, b, by omega, by omega⟩
  · rintro ⟨a, b, c, d⟩; exact ⟨⟨⟨a, b⟩, by omega⟩, by omega⟩
set_option maxHeartbeats 1000000 in
theorem nValid_any (t : Tree) (A : Option Addr) (cap : Nat) (w : World) (hv : SliceR treeE w (Lt w.heap.size) t.kids (.slice A t.kids.length cap)) (htx : t.text.size ≤ maxLen) :
    Calls Tryz.prog 57 #[.agg #[.int .i64 t.kind, .string t.text, .int .i64 t.cols, .slice A t.kids.length cap]] w fun e w' => e = .returned (.bool (validS t)) ∧ Below w.heap.size w w' := by
  have HV := hid (validS_ok t)
  have HCH : Hid (∀ W, Below (w.alloc (Obj.cells #[.int .i64 t.kind, .string t.text, .int .i64 t.cols, .slice A t.kids.length cap] 24)).heap.size (w.alloc (Obj.cells #[.int .i64 t.kind, .string t.text, .int .i64 t.cols, .slice A t.kids.length cap] 24)) W →
      Calls Tryz.prog 92 #[.pointer (some ⟨W.heap.size, 0, none⟩), .pointer (some ⟨w.heap.size, 0, none⟩), .int .i64 1] (W.alloc (.cells chkC 135)) fun e w' => e = .returned (.bool (okS t 0 1)) ∧ Below w.heap.size w w') := by
    intro W hW
    have hb0 : Below w.heap.size w (w.alloc (Obj.cells #[.int .i64 t.kind, .string t.text, .int .i64 t.cols, .slice A t.kids.length cap] 24)) := (Below.refl _ _).alloc (Nat.le_refl _) _
    have hbW : Below w.heap.size w W := hb0.trans (hW.mono hb0.size)
    have hz : w.heap.size < W.heap.size := by have := hW.size; simp at this; omega
    have hbA : Below W.heap.size W (W.alloc (.cells chkC 135)) := (Below.refl _ _).alloc (Nat.le_refl _) _
    obtain ⟨_, _, rs, hq, h1, h2, h3, h4⟩ := hv.below hbW hbW.size
    cases hq
    have hn : NodeAt W (Lt W.heap.size) w.heap.size 0 t A cap rs := by
      obtain ⟨n0, n1, n2, n3⟩ := (NBox.new w t.kind t.cols t.text (.slice A t.kids.length cap)).below hW (by simp)
      exact ⟨⟨n0, n1, n2, n3⟩, hz, htx, h1, h2, h3, h4⟩
    refine (chk_any t _ W.heap.size w.heap.size 0 A cap rs 0 1 (hn.below hbA) (chk_new W _) (by omega) (by omega)).mono ?_
    rintro e w' ⟨he, hb, _⟩
    exact ⟨he, hbW.trans ((hbA.trans hb).mono hbW.size)⟩
  have HB0 : Hid (Below w.heap.size w (w.alloc (Obj.cells #[.int .i64 t.kind, .string t.text, .int .i64 t.cols, .slice A t.kids.length cap] 24))) := (Below.refl _ _).alloc (Nat.le_refl _) _
  have KB : Hid (∀ W, Below (w.alloc (Obj.cells #[.int .i64 t.kind, .string t.text, .int .i64 t.cols, .slice A t.kids.length cap] 24)).heap.size (w.alloc (Obj.cells #[.int .i64 t.kind, .string t.text, .int .i64 t.cols, .slice A t.kids.length cap] 24)) W → W.cell? ⟨w.heap.size, 0, none⟩ = some (.int .i64 t.kind) ∧ w.heap.size < W.heap.size) :=
    fun W hW => ⟨((NBox.new w t.kind t.cols t.text (.slice A t.kids.length cap)).below hW (by simp)).1, by have := hW.size; simp at this; omega⟩
  rw [HV.out]
  clear hv htx HV
  generalize okS t 0 1 = b at *
  obtain ⟨tk, tx, tc, ts⟩ := t
  simp only [Tree.kind, Tree.text, Tree.cols, Tree.kids] at *
  cases h1 : (tk == 1)
  · go_enter Tryz.func57, Tryz.ntmps57
    go_wp2_with fail
    refine (kinds_any _).mono ?_
    rintro e w1 ⟨rfl, hb1⟩
    have HB1 := hid (HB0.out.trans (hb1.mono HB0.out.size))
    obtain ⟨q0, z0⟩ := KB.out w1 hb1
    clear hb1
    go_wp2_with (refine wpList_build_at rfl 135 _ rfl chkC (by kernel_rfl) ?_)
    go_ret
    exact ⟨rfl, HB1.out.trans ((Below.refl _ _).alloc HB1.out.size _)⟩
  · go_enter Tryz.func57, Tryz.ntmps57
    go_wp2_with fail
    refine (kinds_any _).mono ?_
    rintro e w1 ⟨rfl, hb1⟩
    have HCC := hid (HCH.out w1 hb1)
    obtain ⟨q0, z0⟩ := KB.out w1 hb1
    clear hb1
    go_wp2_with (first | (refine wpList_build_at rfl 135 _ rfl chkC (by kernel_rfl) ?_) | (go_at_call 92; refine HCC.out.mono ?_; rintro e w2 ⟨rfl, hb2⟩; have HB2 := hid hb2; clear hb2))
    go_ret
    exact ⟨rfl, HB2.out⟩
end Go.Proofs.YtmahiejfniaahaaGreatDoor
set_option linter.unusedVariables false
set_option linter.unusedSimpArgs false
namespace Go.Proofs.YtmahiejfniaahaaGreatDoor
theorem Tree.ind' {P : Tree → Prop} (h : ∀ t : Tree, (∀ k ∈ t.kids, ∀ u ∈ k.kids, P u) → P t) : ∀ t, P t := by
  intro t
  have : ∀ (n : Nat) (t : Tree), countS t ≤ n → P t := by
    intro n
    induction n with
    | zero => intro t ht; have : 0 < countS t := by cases t; rw [countS]; omega
              omega
    | succ n ih =>
      intro t ht
      have key : ∀ (ts : List Tree), ∀ k ∈ ts, countS k ≤ countsS ts := by
        intro ts
        induction ts with
        | nil => simp
        | cons u us ih => intro k hk; rw [countsS]; rcases List.mem_cons.1 hk with rfl | hk
                          · omega
                          · have := ih k hk; omega
      refine h t fun k hk u hu => ih u ?_
      cases t with
      | mk a b c ts => cases k with
        | mk a' b' c' us =>
        rw [countS] at ht
        have h1 := key ts _ hk
        rw [countS] at h1
        have h2 := key us u hu
        omega
  exact this _ t (Nat.le_refl _)
mutual
def allS (path : List Int) : Tree → List (List Int)
  | .mk _ _ _ ts => itemsS path 0 ts
def itemsS (path : List Int) (i : Nat) : List Tree → List (List Int)
  | [] => [path ++ [(i : Int)]]
  | .mk _ _ _ us :: ts => (path ++ [(i : Int)]) :: (slotsS path i 0 us ++ itemsS path (i + 1) ts)
def slotsS (path : List Int) (i k : Nat) : List Tree → List (List Int)
  | [] => []
  | u :: us => allS (path ++ [(i : Int), (k : Int)]) u ++ slotsS path i (k + 1) us
end
theorem allS_eq (path : List Int) (t : Tree) : allS path t = itemsS path 0 t.kids := by cases t; rw [allS]; rfl
theorem itemsS_cons (path : List Int) (i : Nat) (t : Tree) (ts : List Tree) : itemsS path i (t :: ts) = (path ++ [(i : Int)]) :: (slotsS path i 0 t.kids ++ itemsS path (i + 1) ts) := by cases t; rw [itemsS]; rfl
def posIn : Tree → List Int → Bool
  | t, i :: k :: p =>
    if hi : 0 ≤ i ∧ i.toNat < t.kids.length then
      if hk : 0 ≤ k ∧ k.toNat < (t.kids[i.toNat]'hi.2).kids.length then posIn ((t.kids[i.toNat]'hi.2).kids[k.toNat]'hk.2) p else false
    else false
  | t, [i] => decide (0 ≤ i ∧ i ≤ t.kids.length)
  | _, [] => false
theorem mem_slots (path : List Int) (i : Nat) (q : List Int) : ∀ (us : List Tree) (k : Nat), q ∈ slotsS path i k us ↔ ∃ (j : Nat) (h : j < us.length), q ∈ allS (path ++ [(i : Int), ((k + j : Nat) : Int)]) us[j] := by
  intro us
  induction us with
  | nil => intro k; simp [slotsS]
  | cons u us ih =>
    intro k
    rw [slotsS, List.mem_append, ih]
    constructor
    · rintro (h | ⟨j, h, hq⟩)
      · exact ⟨0, by simp, by simpa using h⟩
      · refine ⟨j + 1, by simpa using h, ?_⟩
        rw [show k + (j + 1) = k + 1 + j by omega]; simpa using hq
    · rintro ⟨j, h, hq⟩
      cases j with
      | zero => left; simpa using hq
      | succ j => right; refine ⟨j, by simpa using h, ?_⟩; rw [show k + 1 + j = k + (j + 1) by omega]; simpa using hq
theorem mem_items (path : List Int) (q : List Int) : ∀ (ts : List Tree) (i : Nat), q ∈ itemsS path i ts ↔ (∃ j, j ≤ ts.length ∧ q = path ++ [((i + j : Nat) : Int)]) ∨ ∃ (j : Nat) (h : j < ts.length), q ∈ slotsS path (i + j) 0 ts[j].kids := by
  intro ts
  induction ts with
  | nil =>
    intro i
    simp only [itemsS, List.mem_singleton, List.length_nil]
    constructor
    · intro h; exact .inl ⟨0, Nat.le_refl _, h⟩
    · rintro (⟨j, hj, h⟩ | ⟨j, hj, _⟩)
      · obtain rfl : j = 0 := by omega
        exact h
      · omega
  | cons t ts ih =>
    intro i
    rw [itemsS_cons, List.mem_cons, List.mem_append, ih]
    constructor
    · rintro (h | h | ⟨j, hj, h⟩ | ⟨j, hj, h⟩)
      · exact .inl ⟨0, by simp, h⟩
      · exact .inr ⟨0, by simp, by simpa using h⟩
      · exact .inl ⟨j + 1, by simpa using hj, by rw [h, show i + (j + 1) = i + 1 + j by omega]⟩
      · refine .inr ⟨j + 1, by simpa using hj, ?_⟩
        rw [show i + (j + 1) = i + 1 + j by omega]; simpa using h
    · rintro (⟨j, hj, h⟩ | ⟨j, hj, h⟩)
      · cases j with
        | zero => exact .inl h
        | succ j => exact .inr (.inr (.inl ⟨j, by simpa using hj, by rw [h, show i + (j + 1) = i + 1 + j by omega]⟩))
      · cases j with
        | zero => exact .inr (.inl (by simpa using h))
        | succ j =>
          refine .inr (.inr (.inr ⟨j, by simpa using hj, ?_⟩))
          rw [show i + 1 + j = i + (j + 1) by omega]; simpa using h
theorem mem_allS (t : Tree) : ∀ (path q : List Int), q ∈ allS path t ↔ ∃ r, q = path ++ r ∧ posIn t r = true := by
  induction t using Tree.ind' with
  | h t ih =>
  intro path q
  rw [allS_eq, mem_items]
  constructor
  · rintro (⟨j, hj, rfl⟩ | ⟨j, hj, h⟩)
    · exact ⟨_, rfl, by simp only [posIn, decide_eq_true_eq]; omega⟩
    · rw [mem_slots] at h
      obtain ⟨k, hk, h⟩ := h
      rw [ih t.kids[j] (List.getElem_mem hj) _ (List.getElem_mem hk)] at h
      obtain ⟨r, rfl, hr⟩ := h
      refine ⟨((0 + j : Nat) : Int) :: ((0 + k : Nat) : Int) :: r, by simp, ?_⟩
      simp only [Nat.zero_add, posIn, Int.natCast_nonneg, Int.toNat_natCast, true_and, hj, hk, dif_pos]
      exact hr
  · rintro ⟨r, rfl, hr⟩
    match r, hr with
    | [i], hr =>
      simp only [posIn, decide_eq_true_eq] at hr
      exact .inl ⟨i.toNat, by omega, by rw [show ((0 + i.toNat : Nat) : Int) = i by omega]⟩
    | i :: k :: r, hr =>
      simp only [posIn] at hr
      split at hr
      · rename_i hi
        split at hr
        · rename_i hk
          refine .inr ⟨i.toNat, hi.2, ?_⟩
          rw [mem_slots]
          refine ⟨k.toNat, hk.2, ?_⟩
          rw [ih _ (List.getElem_mem hi.2) _ (List.getElem_mem hk.2)]
          exact ⟨r, by rw [show ((0 + i.toNat : Nat) : Int) = i by omega, show ((0 + k.toNat : Nat) : Int) = k by omega]; simp, hr⟩
        · cases hr
      · cases hr
    | [], hr => simp [posIn] at hr
theorem mem_all {t : Tree} {q : List Int} : q ∈ allS [] t ↔ posIn t q = true := by rw [mem_allS]; simp
/-! ### the order -/
theorem cmpS_append : ∀ (p a b : List Int), cmpS (p ++ a) (p ++ b) = cmpS a b
  | [], a, b => rfl
  | x :: p, a, b => by rw [List.cons_append, List.cons_append, cmpS, if_neg (by omega), if_neg (by omega)]; exact cmpS_append p a b
theorem cmpS_self : ∀ a, cmpS a a = 0
  | [] => rfl
  | x :: a => by rw [cmpS, if_neg (by omega), if_neg (by omega)]; exact cmpS_self a
theorem cmpS_swap : ∀ a b, cmpS b a = - cmpS a b
  | [], [] => by simp [cmpS]
  | [], _ :: _ => by simp [cmpS]
  | _ :: _, [] => by simp [cmpS]
  | x :: a, y :: b => by
    have ih := cmpS_swap a b
    rw [cmpS, cmpS]
    by_cases h1 : x < y
    · rw [if_neg (by omega), if_pos h1, if_pos h1]; rfl
    · by_cases h2 : y < x
      · rw [if_pos h2, if_neg h1, if_pos h2]
      · rw [if_neg h2, if_neg h1, if_neg h1, if_neg h2, ih]
def ltS (a b : List Int) : Prop := cmpS a b < 0
theorem items_form (path : List Int) : ∀ (ts : List Tree) (i : Nat) (q : List Int), q ∈ itemsS path i ts → ∃ (x : Int) (r : List Int), q = path ++ x :: r ∧ (i : Int) ≤ x := by
  intro ts i q h
  rw [mem_items] at h
  rcases h with ⟨j, _, rfl⟩ | ⟨j, hj, h⟩
  · exact ⟨_, [], rfl, by omega⟩
  · rw [mem_slots] at h
    obtain ⟨k, hk, h⟩ := h
    rw [mem_allS] at h
    obtain ⟨r, rfl, _⟩ := h
    exact ⟨((i + j : Nat) : Int), _, by simp only [List.append_assoc, List.cons_append, List.nil_append]; rfl, by omega⟩
theorem slots_form (path : List Int) (i k : Nat) (us : List Tree) (q : List Int) (h : q ∈ slotsS path i k us) : ∃ (y : Int) (r : List Int), q = path ++ (i : Int) :: y :: r ∧ (k : Int) ≤ y := by
  rw [mem_slots] at h
  obtain ⟨j, hj, h⟩ := h
  rw [mem_allS] at h
  obtain ⟨r, rfl, _⟩ := h
  exact ⟨((k + j : Nat) : Int), r, by simp, by omega⟩
mutual
theorem allS_sorted (path : List Int) : (t : Tree) → (allS path t).Pairwise ltS
  | .mk _ _ _ ts => by rw [allS]; exact itemsS_sorted path 0 ts
theorem itemsS_sorted (path : List Int) (i : Nat) : (ts : List Tree) → (itemsS path i ts).Pairwise ltS
  | [] => by rw [itemsS]; exact List.pairwise_singleton _ _
  | .mk _ _ _ us :: ts => by
    rw [itemsS, List.pairwise_cons]
    refine ⟨fun q hq => ?_, ?_⟩
    · rcases List.mem_append.1 hq with hq | hq
      · obtain ⟨y, r, rfl, _⟩ := slots_form path i 0 us q hq
        unfold ltS; rw [cmpS_append, cmpS, if_neg (by omega), if_neg (by omega), cmpS]; decide
      · obtain ⟨x, r, rfl, hx⟩ := items_form path ts (i + 1) q hq
        unfold ltS; rw [cmpS_append, cmpS, if_pos (by omega)]; decide
    · rw [List.pairwise_append]
      refine ⟨slotsS_sorted path i 0 us, itemsS_sorted path (i + 1) ts, fun a ha b hb => ?_⟩
      obtain ⟨y, r, rfl, _⟩ := slots_form path i 0 us a ha
      obtain ⟨x, s, rfl, hx⟩ := items_form path ts (i + 1) b hb
      unfold ltS; rw [cmpS_append, cmpS, if_pos (by omega)]; decide
theorem slotsS_sorted (path : List Int) (i k : Nat) : (us : List Tree) → (slotsS path i k us).Pairwise ltS
  | [] => by rw [slotsS]; exact List.Pairwise.nil
  | u :: us => by
    rw [slotsS, List.pairwise_append]
    refine ⟨allS_sorted _ u, slotsS_sorted path i (k + 1) us, fun a ha b hb => ?_⟩
    rw [mem_allS] at ha
    obtain ⟨r, rfl, _⟩ := ha
    obtain ⟨y, s, rfl, hy⟩ := slots_form path i (k + 1) us b hb
    unfold ltS; rw [List.append_assoc, cmpS_append]; show cmpS ((i : Int) :: (k : Int) :: r) _ < 0
    rw [cmpS, if_neg (by omega), if_neg (by omega), cmpS, if_pos (by omega)]; decide
end
/-! ### the number -/
mutual
def cntS : Tree → Nat
  | .mk _ _ _ ts => itemsC ts
def itemsC : List Tree → Nat
  | [] => 1
  | .mk _ _ _ us :: ts => 1 + (slotsC us + itemsC ts)
def slotsC : List Tree → Nat
  | [] => 0
  | u :: us => cntS u + slotsC us
end
mutual
theorem allS_len (path : List Int) : (t : Tree) → (allS path t).length = cntS t
  | .mk _ _ _ ts => by rw [allS, cntS]; exact itemsS_len path 0 ts
theorem itemsS_len (path : List Int) (i : Nat) : (ts : List Tree) → (itemsS path i ts).length = itemsC ts
  | [] => by rw [itemsS, itemsC]; rfl
  | .mk _ _ _ us :: ts => by rw [itemsS, itemsC, List.length_cons, List.length_append, slotsS_len path i 0 us, itemsS_len path (i + 1) ts]; omega
theorem slotsS_len (path : List Int) (i k : Nat) : (us : List Tree) → (slotsS path i k us).length = slotsC us
  | [] => by rw [slotsS, slotsC]; rfl
  | u :: us => by rw [slotsS, slotsC, List.length_append, allS_len _ u, slotsS_len path i (k + 1) us]
end
mutual
theorem cntS_le : (t : Tree) → cntS t ≤ 2 * countS t
  | .mk _ _ _ ts => by rw [cntS, countS]; have := itemsC_le ts; omega
theorem itemsC_le : (ts : List Tree) → itemsC ts ≤ 1 + 2 * countsS ts
  | [] => by rw [itemsC]; omega
  | .mk _ _ _ us :: ts => by rw [itemsC, countsS, countS]; have := slotsC_le us; have := itemsC_le ts; omega
theorem slotsC_le : (us : List Tree) → slotsC us ≤ 2 * countsS us
  | [] => by rw [slotsC]; omega
  | u :: us => by rw [slotsC, countsS]; have := cntS_le u; have := slotsC_le us; omega
end
theorem cntS_pos (t : Tree) : 0 < cntS t := by
  obtain ⟨_, _, _, ts⟩ := t
  rw [cntS]
  match ts with
  | [] => rw [itemsC]; omega
  | .mk _ _ _ _ :: _ => rw [itemsC]; omega
theorem depthS_kid {t : Tree} {j : Nat} (h : j < t.kids.length) : depthS t.kids[j] + 1 ≤ depthS t := by
  obtain ⟨_, _, _, ts⟩ := t
  simp only [Tree.kids] at *
  rw [depthS]
  have h1 := depthsS_append (ts.take j) (ts.drop j)
  rw [List.take_append_drop, List.drop_eq_getElem_cons (show j < ts.length from h), depthsS] at h1
  omega
theorem countS_kid {t : Tree} {j : Nat} (h : j < t.kids.length) : countS t.kids[j] + 1 ≤ countS t := by
  obtain ⟨_, _, _, ts⟩ := t
  simp only [Tree.kids] at *
  rw [countS]
  have h1 := countsS_append (ts.take j) (ts.drop j)
  rw [List.take_append_drop, List.drop_eq_getElem_cons (show j < ts.length from h), countsS] at h1
  omega
theorem kids_le_count (t : Tree) : t.kids.length + 1 ≤ countS t := by
  obtain ⟨_, _, _, ts⟩ := t
  simp only [Tree.kids]
  rw [countS]
  have : ts.length ≤ countsS ts := by
    induction ts with
    | nil => simp
    | cons u us ih => obtain ⟨_, _, _, vs⟩ := u; rw [countsS, countS, List.length_cons]; omega
  omega
theorem posIn_bd (t : Tree) : ∀ (q : List Int), posIn t q = true → q.length ≤ depthS t ∧ ∀ x ∈ q, 0 ≤ x ∧ x ≤ countS t := by
  induction t using Tree.ind' with
  | h t ih =>
  intro q hq
  have hkc := kids_le_count t
  match q, hq with
  | [i], hq =>
    simp only [posIn, decide_eq_true_eq] at hq
    refine ⟨?_, by simp; omega⟩
    obtain ⟨_, _, _, ts⟩ := t
    rw [depthS]; simp
  | i :: k :: r, hq =>
    simp only [posIn] at hq
    split at hq
    · rename_i hi
      split at hq
      · rename_i hk
        obtain ⟨h1, h2⟩ := ih _ (List.getElem_mem hi.2) _ (List.getElem_mem hk.2) r hq
        have d1 := depthS_kid hi.2
        have d2 := depthS_kid hk.2
        have c1 := countS_kid hi.2
        have c2 := countS_kid hk.2
        have k2 := kids_le_count (t.kids[i.toNat]'hi.2)
        refine ⟨by simp only [List.length_cons]; omega, ?_⟩
        intro x hx
        simp only [List.mem_cons] at hx
        rcases hx with rfl | rfl | hx
        · omega
        · omega
        · have := h2 x hx; omega
      · cases hq
    · cases hq
  | [], hq => simp [posIn] at hq
end Go.Proofs.YtmahiejfniaahaaGreatDoor
set_option linter.unusedVariables false
set_option linter.unusedSimpArgs false
set_option maxRecDepth 100000
namespace Go.Proofs.YtmahiejfniaahaaGreatDoor
open Go.RowKit
theorem below_dn {B : Nat} {a w : World} (h : Below B a w) (n : Nat) : Below B a (w.drewN n) := ⟨h.os, h.tape, h.output, h.size, h.block⟩
theorem posIn_two (t : Tree) (i k : Int) : posIn t [i, k] = false := by
  unfold posIn
  split
  · split
    · simp [posIn]
    · rfl
  · rfl
set_option maxHeartbeats 2000000 in
theorem in_any (t : Tree) (p : List Int) (A : Option Addr) (cap : Nat) (b : Value) (w : World) (hv : SliceR treeE w (Lt w.heap.size) t.kids (.slice A t.kids.length cap)) (htx : t.text.size ≤ maxLen) (hp : IntsR w (Lt w.heap.size) p b) :
    Calls Tryz.prog 76 #[.agg #[.int .i64 t.kind, .string t.text, .int .i64 t.cols, .slice A t.kids.length cap], b] w fun e w' => e = .returned (.bool (posIn t p)) ∧ Below w.heap.size w w' := by
  have hb0 : Below w.heap.size w (w.alloc (Obj.cells #[.int .i64 t.kind, .string t.text, .int .i64 t.cols, .slice A t.kids.length cap] 24)) := (Below.refl _ _).alloc (Nat.le_refl _) _
  have hv1 := hv.below hb0 hb0.size
  have HN : Hid (∃ rs, NodeAt (w.alloc (Obj.cells #[.int .i64 t.kind, .string t.text, .int .i64 t.cols, .slice A t.kids.length cap] 24)) (Lt (w.alloc (Obj.cells #[.int .i64 t.kind, .string t.text, .int .i64 t.cols, .slice A t.kids.length cap] 24)).heap.size) w.heap.size 0 t A cap rs) := by
    obtain ⟨_, _, rs, hq, h1, h2, h3, h4⟩ := hv1
    cases hq
    exact ⟨rs, NBox.new w t.kind t.cols t.text (.slice A t.kids.length cap), by unfold Lt; simp, htx, h1, h2, h3, h4⟩
  have HP := hid (hp.below hb0 hb0.size)
  have HB0 := hid hb0
  obtain ⟨tk, tx, tc, ts⟩ := t
  simp only [Tree.kind, Tree.text, Tree.cols, Tree.kids] at *
  obtain ⟨A', cap', rfl⟩ := hp.form
  clear hv htx hp hb0 hv1
  go_enter Tryz.func76, Tryz.ntmps76
  go_wp2_with fail
  generalize hW0 : w.alloc (Obj.cells #[.int .i64 tk, .string tx, .int .i64 tc, .slice A ts.length cap] 24) = W0 at *
  have z0 : w.heap.size < W0.heap.size := by rw [← hW0]; simp
  clear hW0
  go_loopw [1, 5] (fun c r wr => (∃ n, wr = W0.drewN n) ∧ ∃ (p' : List Int) (t' : Tree) (g o : Nat) (A1 : Option Addr) (cap1 : Nat) (rs : List Value), r = .pointer (some ⟨g, o, none⟩) ∧ IntsR W0 (Lt W0.heap.size) p' c ∧ NodeAt W0 (Lt W0.heap.size) g o t' A1 cap1 rs ∧ posIn t' p' = posIn (.mk tk tx tc ts) p)
    (fun c _ _ => match c with | .slice _ n _ => n | _ => 0)
  case atStart =>
    obtain ⟨rs, hN⟩ := HN.out
    exact ⟨⟨0, rfl⟩, p, .mk tk tx tc ts, w.heap.size, 0, A, cap, rs, rfl, HP.out, hN, rfl⟩
  case round =>
    obtain ⟨⟨n, rfl⟩, p', t', g, o, A1, cap1, rs, rfl, hp', hn, hrest⟩ := hrel
    have HR := hid hrest
    have HP' := hid hp'
    obtain ⟨⟨c0, c1, c2, c3⟩, hg, htx, h4, h5, h6, h7⟩ := hn
    obtain ⟨A2, cap2, ws, rfl, h8, h9, h10, h11⟩ := hp'
    have hl1 : p'.length ≤ 9223372036854775807 := by unfold maxLen at h9; omega
    have hl2 : t'.kids.length ≤ 9223372036854775807 := by unfold maxLen at h5; omega
    have hgl : g < W0.heap.size := hg
    clear hrest HN HP
    match p', hl1, HR, HP', h8, h10, h11 with
    | [], hl1, HR, HP', h8, h10, h11 =>
      have HF : Hid (posIn (.mk tk tx tc ts) p = false) := by show _ = _; rw [← HR.out]; simp [posIn]
      clear h10 h11 h6 h7
      go_wp2_with fail
      go_quiet (fail)
      go_wp2_with fail
      go_ret
      exact ⟨by rw [HF.out]; rfl, by first | exact below_dn HB0.out _ | (simp only [World.drewN_drewN]; exact below_dn HB0.out _)⟩
    | [i], hl1, HR, HP', h8, h10, h11 =>
      obtain ⟨g', o', rfl, hg', hi, a0⟩ := ints_at h10 h11 (k := 0) (by simp)
      simp only [List.getElem_cons_zero, Nat.add_zero] at a0 hi
      have HF : Hid (posIn (.mk tk tx tc ts) p = decide (0 ≤ i ∧ i ≤ t'.kids.length)) := by show _ = _; rw [← HR.out]; simp [posIn]
      clear h10 h11 h6 h7
      simp only [List.length_cons, List.length_nil, Nat.zero_add]
      by_cases k0 : 0 ≤ i
      · have d0 : decide (0 ≤ i) = true := decide_eq_true k0
        by_cases k1 : i ≤ (t'.kids.length : Int)
        · have d1 : decide (i ≤ (t'.kids.length : Int)) = true := decide_eq_true k1
          rw [decide_eq_true (show 0 ≤ i ∧ i ≤ (t'.kids.length : Int) from ⟨k0, k1⟩)] at HF
          go_wp2_with fail
          go_quiet (fail)
          go_wp2_with fail
          go_ret
          exact ⟨by rw [HF.out]; first | rfl | (simp; omega), by first | exact below_dn HB0.out _ | (simp only [World.drewN_drewN]; exact below_dn HB0.out _)⟩
        · have d1 : decide (i ≤ (t'.kids.length : Int)) = false := decide_eq_false k1
          rw [decide_eq_false (show ¬ (0 ≤ i ∧ i ≤ (t'.kids.length : Int)) from fun h => k1 h.2)] at HF
          go_wp2_with fail
          go_quiet (fail)
          go_wp2_with fail
          go_ret
          exact ⟨by rw [HF.out]; first | rfl | (simp; omega), by first | exact below_dn HB0.out _ | (simp only [World.drewN_drewN]; exact below_dn HB0.out _)⟩
      · have d0 : decide (0 ≤ i) = false := decide_eq_false k0
        rw [decide_eq_false (show ¬ (0 ≤ i ∧ i ≤ (t'.kids.length : Int)) from fun h => k0 h.1)] at HF
        go_wp2_with fail
        go_quiet (fail)
        go_wp2_with fail
        go_ret
        exact ⟨by rw [HF.out]; first | rfl | (simp; omega), by first | exact below_dn HB0.out _ | (simp only [World.drewN_drewN]; exact below_dn HB0.out _)⟩
    | [i, k], hl1, HR, HP', h8, h10, h11 =>
      have HF : Hid (posIn (.mk tk tx tc ts) p = false) := by show _ = _; rw [← HR.out, posIn_two]
      clear h10 h11 h6 h7
      simp only [List.length_cons, List.length_nil, Nat.zero_add]
      go_wp2_with fail
      go_quiet (fail)
      go_wp2_with fail
      go_ret
      exact ⟨by rw [HF.out]; rfl, by first | exact below_dn HB0.out _ | (simp only [World.drewN_drewN]; exact below_dn HB0.out _)⟩
    | i :: k :: x :: q, hl1, HR, HP', h8, h10, h11 =>
      obtain ⟨g', o', rfl, hg', hi, a0⟩ := ints_at h10 h11 (k := 0) (by simp)
      obtain ⟨g2, o2, hq, hg2, hk, a1⟩ := ints_at h10 h11 (k := 1) (by simp)
      cases hq
      simp only [List.getElem_cons_zero, List.getElem_cons_succ, Nat.add_zero] at a0 a1 hi hk
      obtain ⟨A3, hsl, hcut⟩ := cut_l intE Tryz.underlying26 size_int (some ⟨g', o', none⟩) (i :: k :: x :: q).length cap2 2 2 rfl (by simp)
      have HCU := hid (hcut _ _ _ HP'.out)
      simp only [List.drop_succ_cons, List.drop_zero] at HCU
      have i3 : (3 : Int) ≤ ((i :: k :: x :: q).length : Int) := by simp; omega
      have hlen2 : (i :: k :: x :: q).length - 2 = (x :: q).length := by simp
      have hpq : Hid ((x :: q).length < (i :: k :: x :: q).length) := by show _ < _; simp
      rw [hlen2] at hsl HCU
      have m0 : (0 : Int) < ((i :: k :: x :: q).length : Int) := by simp; omega
      have m2 : 0 < (i :: k :: x :: q).length := by simp
      have m1 : 1 < (i :: k :: x :: q).length := by simp
      have m3 : (1 : Int) < ((i :: k :: x :: q).length : Int) := by simp; omega
      clear hcut hlen2 h10 h11
      generalize (i :: k :: x :: q).length = m at *
      have HX : Hid (posIn (.mk tk tx tc ts) p = posIn t' (i :: k :: x :: q)) := HR.out.symm
      have HPS := hid (show posIn t' (i :: k :: x :: q) = _ by rw [posIn])
      clear HR
      by_cases hx : 0 ≤ i ∧ i.toNat < t'.kids.length
      · obtain ⟨hx1, hx2⟩ := hx
        obtain ⟨i', rfl⟩ : ∃ i' : Nat, i = i' := ⟨i.toNat, by omega⟩
        simp only [Int.toNat_natCast] at hx2
        obtain ⟨gk, ok, B1, b1, bs1, rfl, hg1, t0, t1, t2, t3, _, _, hts, hc5, hc6, hrd, hls⟩ := trees_at h6 h7 hx2
        have j0 : decide ((i' : Int) < 0) = false := by simp
        have j1 : ¬ (i' : Int) < 0 := by omega
        have j2 : decide ((t'.kids.length : Int) ≤ i') = false := by simp; omega
        have j3 : (i' : Int) < (t'.kids.length : Int) := by omega
        have hg1l : gk < W0.heap.size := hg1
        have hl3 : t'.kids[i'].kids.length ≤ 9223372036854775807 := by unfold maxLen at hc6; omega
        by_cases hy : 0 ≤ k ∧ k.toNat < t'.kids[i'].kids.length
        · obtain ⟨hy1, hy2⟩ := hy
          obtain ⟨k', rfl⟩ : ∃ k' : Nat, k = k' := ⟨k.toNat, by omega⟩
          simp only [Int.toNat_natCast] at hy2
          obtain ⟨gl, ol, B2, b2, bs2, rfl, hg2', s0, s1, s2, s3, _, _, hts2, hd5, hd6, hrd2, hls2⟩ := trees_at hrd hls hy2
          have j4 : decide ((k' : Int) < 0) = false := by simp
          have j5 : ¬ (k' : Int) < 0 := by omega
          have j6 : decide ((t'.kids[i'].kids.length : Int) ≤ k') = false := by simp; omega
          have j7 : (k' : Int) < (t'.kids[i'].kids.length : Int) := by omega
          have HF : Hid (posIn t'.kids[i'].kids[k'] (x :: q) = posIn (.mk tk tx tc ts) p) := by
            show _ = _
            rw [HX.out, posIn, dif_pos ⟨by omega, by simpa using hx2⟩, dif_pos ⟨by omega, by simpa using hy2⟩]; rfl
          have HN2 : Hid (NodeAt W0 (Lt W0.heap.size) gl (ol + k' * 4) t'.kids[i'].kids[k'] B2 b2 bs2) := ⟨⟨s0, s1, s2, s3⟩, hg2', hts2, hd5, hd6, hrd2, hls2⟩
          clear hrd hls hrd2 hls2 h6 h7 HX HPS hd5 hd6 hc5 hc6
          go_wp2_with fail
          go_quiet (fail)
          go_wp2_with fail
          go_roundw
          case rel => exact ⟨by first | exact ⟨_, rfl⟩ | (simp only [World.drewN_drewN]; exact ⟨_, rfl⟩), x :: q, _, _, _, _, _, _, rfl, HCU.out, HN2.out, HF.out⟩
          case measure => exact hpq.out
        · have HF : Hid (posIn (.mk tk tx tc ts) p = false) := by
            show _ = _
            rw [HX.out, posIn, dif_pos ⟨by omega, by simpa using hx2⟩, dif_neg (by simpa using hy)]
          have i2 : k < 0 ∨ (0 ≤ k ∧ (t'.kids[i'].kids.length : Int) ≤ k) := by omega
          clear hrd hls h6 h7 HX HPS hc5 hc6 hy
          rcases i2 with i2 | ⟨i2, i3⟩
          · have j4 : decide (k < 0) = true := decide_eq_true i2
            go_wp2_with fail
            go_quiet (fail)
            go_wp2_with fail
            go_ret
            exact ⟨by rw [HF.out]; rfl, by first | exact below_dn HB0.out _ | (simp only [World.drewN_drewN]; exact below_dn HB0.out _)⟩
          · have j4 : decide (k < 0) = false := by simp; omega
            have j5 : decide ((t'.kids[i'].kids.length : Int) ≤ k) = true := decide_eq_true i3
            go_wp2_with fail
            go_quiet (fail)
            go_wp2_with fail
            go_ret
            exact ⟨by rw [HF.out]; rfl, by first | exact below_dn HB0.out _ | (simp only [World.drewN_drewN]; exact below_dn HB0.out _)⟩
      · have HF : Hid (posIn (.mk tk tx tc ts) p = false) := by show _ = _; rw [HX.out, posIn, dif_neg hx]
        have i2 : i < 0 ∨ (0 ≤ i ∧ (t'.kids.length : Int) ≤ i) := by omega
        clear h6 h7 HX HPS hx
        rcases i2 with i2 | ⟨i2, i3⟩
        · have j4 : decide (i < 0) = true := decide_eq_true i2
          go_wp2_with fail
          go_quiet (fail)
          go_wp2_with fail
          go_ret
          exact ⟨by rw [HF.out]; rfl, by first | exact below_dn HB0.out _ | (simp only [World.drewN_drewN]; exact below_dn HB0.out _)⟩
        · have j4 : decide (i < 0) = false := by simp; omega
          have j5 : decide ((t'.kids.length : Int) ≤ i) = true := decide_eq_true i3
          go_wp2_with fail
          go_quiet (fail)
          go_wp2_with fail
          go_ret
          exact ⟨by rw [HF.out]; rfl, by first | exact below_dn HB0.out _ | (simp only [World.drewN_drewN]; exact below_dn HB0.out _)⟩
end Go.Proofs.YtmahiejfniaahaaGreatDoor
