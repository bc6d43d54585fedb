/- arrow.mover: end. Written by wip/genarr.py. -/
import Derived.Test.YtmahiejfniaahaaGreatDoorArrMv
import Derived.Deep.RegionHeld3
set_option linter.unusedVariables false
set_option linter.unusedSimpArgs false
set_option maxRecDepth 100000
namespace Go.Proofs.YtmahiejfniaahaaGreatDoor
open Go.RowKit
section
variable (tk : Int) (tx : ByteArray) (tc : Int) (tn cap : Nat) (A Ak As Ap : Option Addr) (kind size bw bh bd bx by_ of_ : Int) (name : ByteArray) (kn ck sn cs pn cp : Nat)
def Four_ (W : World) (g : Nat) (vs : List Value) : Prop := BoxL W g 0 vs ∧ FreeB W g ∧ g < W.heap.size
theorem Four_.new (w : World) (arr : Array Value) (T : TypeId) (g : Nat) (hg : g = w.heap.size) (vs : List Value) (hv : vs = arr.toList) : Four_ (w.alloc (.cells arr T)) g vs := ⟨BoxL.new w arr T g hg vs hv, FreeB.new w arr T g hg, by subst hg; simp⟩
theorem Four_.keep {W W' : World} {g : Nat} {vs : List Value} (h : Four_ W g vs) (hb : Below W.heap.size W W') : Four_ W' g vs := ⟨h.1.below hb h.2.2, h.2.1.below hb h.2.2, Nat.lt_of_lt_of_le h.2.2 hb.size⟩
theorem Four_.facts {W : World} {g : Nat} {a b c d : Value} (h : Four_ W g [a, b, c, d]) : W.cell? ⟨g, 0, none⟩ = some a ∧ W.cell? ⟨g, 1, none⟩ = some b ∧ W.cell? ⟨g, 2, none⟩ = some c ∧ W.cell? ⟨g, 3, none⟩ = some d ∧ W.frozen? ⟨g, 0, none⟩ = false ∧ W.frozen? ⟨g, 1, none⟩ = false ∧ W.frozen? ⟨g, 2, none⟩ = false ∧ W.frozen? ⟨g, 3, none⟩ = false := by
  obtain ⟨h1, h2, _⟩ := h
  refine ⟨h1 0 _ rfl, ?_, ?_, ?_, h2 _, h2 _, h2 _, h2 _⟩
  · simpa using h1 1 _ rfl
  · simpa using h1 2 _ rfl
  · simpa using h1 3 _ rfl
theorem Four_.set {W : World} {g B : Nat} {a : World} {u0 u1 u2 u3 : Value} (h : Four_ W g [u0, u1, u2, u3]) (x0 x1 x2 x3 : Value) (hB : B ≤ g) (hb : Below B a W) : ((((W.setCell ⟨g, 0, none⟩ x0).setCell ⟨g, 1, none⟩ x1).setCell ⟨g, 2, none⟩ x2).setCell ⟨g, 3, none⟩ x3).cell? ⟨g, 3, none⟩ = some x3 ∧ Below B a ((((W.setCell ⟨g, 0, none⟩ x0).setCell ⟨g, 1, none⟩ x1).setCell ⟨g, 2, none⟩ x2).setCell ⟨g, 3, none⟩ x3) := by
  have hs := setL [x0, x1, x2, x3] W g 0 (fun j hj => h.1.has j (by simpa using hj))
  exact ⟨hs.at_ 3 _ rfl, hs.below B a hB hb⟩
set_option maxHeartbeats 8000000 in
theorem mend_any (t : Tree) (q : List Int) (x : Int) (w : World) (ht : tk = t.kind ∧ tx = t.text ∧ tc = t.cols ∧ tn = t.kids.length) (hv : SliceR treeE w (Lt w.heap.size) t.kids (.slice A t.kids.length cap)) (hok : NodeOk t) (hct : countS t ≤ 900000) (hp : IntsR w (Lt w.heap.size) (q ++ [x]) (.slice Ap pn cp)) (hpn : pn = q.length + 1) (hql : q.length ≤ 100000) (he : (rowRes t q).2 = 0) (hrl : (rowRes t q).1.kids.length ≤ 1000000) :
    Calls Tryz.prog 62 #[.agg #[.int .i64 tk, .string tx, .int .i64 tc, .slice A tn cap, .int .i64 kind, .string name, .int .i64 size, .int .i64 bw, .int .i64 bh, .int .i64 bd, .int .i64 bx, .int .i64 by_, .slice Ak kn ck, .int .i64 of_, .slice As sn cs, .slice Ap pn cp]] w (PosRes w (q ++ [((rowRes t q).1.kids.length : Int)], 0)) := by
  generalize hW0 : w.alloc (Obj.cells #[.int .i64 tk, .string tx, .int .i64 tc, .slice A tn cap, .int .i64 kind, .string name, .int .i64 size, .int .i64 bw, .int .i64 bh, .int .i64 bd, .int .i64 bx, .int .i64 by_, .slice Ak kn ck, .int .i64 of_, .slice As sn cs, .slice Ap pn cp] 100) = W0
  have hB0 : Below w.heap.size w W0 := by rw [← hW0]; exact bNew _ _
  have hz0 : W0.heap.size = w.heap.size + 1 := by rw [← hW0]; simp
  have hM : MovBox W0 w.heap.size #[.int .i64 tk, .string tx, .int .i64 tc, .slice A tn cap, .int .i64 kind, .string name, .int .i64 size, .int .i64 bw, .int .i64 bh, .int .i64 bd, .int .i64 bx, .int .i64 by_, .slice Ak kn ck, .int .i64 of_, .slice As sn cs, .slice Ap pn cp] := by rw [← hW0]; exact MovBox.new _ _ _ _ rfl
  have HMB : Hid (∀ W, Below W0.heap.size W0 W → MovBox W w.heap.size #[.int .i64 tk, .string tx, .int .i64 tc, .slice A tn cap, .int .i64 kind, .string name, .int .i64 size, .int .i64 bw, .int .i64 bh, .int .i64 bd, .int .i64 bx, .int .i64 by_, .slice Ak kn ck, .int .i64 of_, .slice As sn cs, .slice Ap pn cp]) := fun W hW => hM.below hW (by omega)
  have HPA : Hid (∀ W, Below W0.heap.size W0 W → Calls Tryz.prog 96 #[.agg #[.int .i64 tk, .string tx, .int .i64 tc, .slice A tn cap, .int .i64 kind, .string name, .int .i64 size, .int .i64 bw, .int .i64 bh, .int .i64 bd, .int .i64 bx, .int .i64 by_, .slice Ak kn ck, .int .i64 of_, .slice As sn cs, .slice Ap pn cp]] W (IntsPost W q)) := fun W hW => by
    have h := hB0.trans (hW.mono hB0.size)
    exact mpath_any tk tx tc tn cap A Ak As Ap kind size bw bh bd bx by_ of_ name kn ck sn cs pn cp q x W (hp.below h h.size) hpn
  have HRW : Hid (∀ W A' c', Below W0.heap.size W0 W → IntsR W (Lt W.heap.size) q (.slice A' q.length c') → Calls Tryz.prog 97 #[.agg #[.int .i64 tk, .string tx, .int .i64 tc, .slice A tn cap], .slice A' q.length c'] W (RowQ W (rowRes t q).1 0)) := fun W A' c' hW hi => by
    have h := hB0.trans (hW.mono hB0.size)
    obtain ⟨rfl, rfl, rfl, rfl⟩ := ht
    have hr := nRow_any t q A A' cap c' W (hv.below h h.size) hok hct hi
    rw [he] at hr
    exact hr
  have hn64 : In64 ((rowRes t q).1.kids.length : Int) := by unfold In64; omega
  obtain ⟨⟨rk, rx, rc, rs⟩, hrr⟩ : ∃ r, (rowRes t q).1 = r := ⟨_, rfl⟩
  rw [hrr] at HRW hn64 hrl
  rw [hrr]
  simp only [Tree.kind, Tree.text, Tree.cols, Tree.kids] at hn64 hrl ⊢
  have HRWX : Hid (∀ W A' c', Below W0.heap.size W0 W → IntsR W (Lt W.heap.size) q (.slice A' q.length c') → Calls Tryz.prog 97 #[.agg #[.int .i64 tk, .string tx, .int .i64 tc, .slice A tn cap], .slice A' q.length c'] W (RowQ W (.mk rk rx rc rs) 0)) := HRW.out
  have HB0 := hid hB0
  have HN := hid hn64
  have HQL := hid hql
  have f0 := hM 0 _ rfl
  have f1 := hM 1 _ rfl
  have f2 := hM 2 _ rfl
  have f3 := hM 3 _ rfl
  have f4 := hM 4 _ rfl
  have f5 := hM 5 _ rfl
  have f6 := hM 6 _ rfl
  have f7 := hM 7 _ rfl
  have f8 := hM 8 _ rfl
  have f9 := hM 9 _ rfl
  have f10 := hM 10 _ rfl
  have f11 := hM 11 _ rfl
  have f12 := hM 12 _ rfl
  have f13 := hM 13 _ rfl
  have f14 := hM 14 _ rfl
  have f15 := hM 15 _ rfl
  have ne0 : ¬ (W0.heap.size = w.heap.size) := by omega
  have HGTW : Hid (w.heap.size < W0.heap.size) := by show _ < _; omega
  have HDR : Hid (Below W0.heap.size W0 W0.drew) := (Below.refl _ _).drew
  have HDZ : Hid (Below W0.heap.size W0 (W0.alloc (Obj.cells #[.int .i64 0, .string ⟨#[]⟩, .int .i64 0, .slice none 0 0] 24)).drew) := (bNew _ _).drew
  have HZN : Hid (Four_ (W0.alloc (Obj.cells #[.int .i64 0, .string ⟨#[]⟩, .int .i64 0, .slice none 0 0] 24)).drew W0.heap.size [.int .i64 0, .string ⟨#[]⟩, .int .i64 0, .slice none 0 0]) := Four_.new W0 _ _ _ rfl _ rfl
  clear hp hpn hB0 hM hql ht hv hok hct he hn64 hrr HRW hz0
  go_enter Tryz.func62, Tryz.ntmps62
  go_upto_region 1 with fail
  clear hW0
  go_cut [4, 5] (fun p e wx => ∃ g4 A' c', p = .pointer (some ⟨g4, 0, none⟩) ∧ e = .int .i64 0 ∧ wx.cell? ⟨g4, 3, none⟩ = some (.slice A' rs.length c') ∧ Below W0.heap.size W0 wx)
  case first =>
    go_region_held3 (fun w' => w'.cell? ⟨w.heap.size, 0, none⟩ = some (.int .i64 tk) ∧ w'.cell? ⟨w.heap.size, 1, none⟩ = some (.string tx) ∧ w'.cell? ⟨w.heap.size, 2, none⟩ = some (.int .i64 tc) ∧ w'.cell? ⟨w.heap.size, 3, none⟩ = some (.slice A tn cap) ∧ w'.cell? ⟨w.heap.size, 4, none⟩ = some (.int .i64 kind) ∧ w'.cell? ⟨w.heap.size, 5, none⟩ = some (.string name) ∧ w'.cell? ⟨w.heap.size, 6, none⟩ = some (.int .i64 size) ∧ w'.cell? ⟨w.heap.size, 7, none⟩ = some (.int .i64 bw) ∧ w'.cell? ⟨w.heap.size, 8, none⟩ = some (.int .i64 bh) ∧ w'.cell? ⟨w.heap.size, 9, none⟩ = some (.int .i64 bd) ∧ w'.cell? ⟨w.heap.size, 10, none⟩ = some (.int .i64 bx) ∧ w'.cell? ⟨w.heap.size, 11, none⟩ = some (.int .i64 by_) ∧ w'.cell? ⟨w.heap.size, 12, none⟩ = some (.slice Ak kn ck) ∧ w'.cell? ⟨w.heap.size, 13, none⟩ = some (.int .i64 of_) ∧ w'.cell? ⟨w.heap.size, 14, none⟩ = some (.slice As sn cs) ∧ w'.cell? ⟨w.heap.size, 15, none⟩ = some (.slice Ap pn cp)) (go_keep) (first
      | (go_at_call 96; (with_reducible refine (HPA.out _ HDR.out).mono ?_); rintro e w1 ⟨v1, rfl, hi1, hb1⟩; obtain ⟨A1, c1, rfl⟩ := hi1.form; have HI1 := hid hi1; have HX1 : Hid (Below W0.heap.size W0 w1) := bDr hb1; clear hi1 hb1; have f0 := HMB.out w1 HX1.out 0 _ rfl; have f1 := HMB.out w1 HX1.out 1 _ rfl; have f2 := HMB.out w1 HX1.out 2 _ rfl; have f3 := HMB.out w1 HX1.out 3 _ rfl; have f4 := HMB.out w1 HX1.out 4 _ rfl; have f5 := HMB.out w1 HX1.out 5 _ rfl; have f6 := HMB.out w1 HX1.out 6 _ rfl; have f7 := HMB.out w1 HX1.out 7 _ rfl; have f8 := HMB.out w1 HX1.out 8 _ rfl; have f9 := HMB.out w1 HX1.out 9 _ rfl; have f10 := HMB.out w1 HX1.out 10 _ rfl; have f11 := HMB.out w1 HX1.out 11 _ rfl; have f12 := HMB.out w1 HX1.out 12 _ rfl; have f13 := HMB.out w1 HX1.out 13 _ rfl; have f14 := HMB.out w1 HX1.out 14 _ rfl; have f15 := HMB.out w1 HX1.out 15 _ rfl)
      | (go_at_call 96; (with_reducible refine (HPA.out _ HDZ.out).mono ?_); rintro e w1 ⟨v1, rfl, hi1, hb1⟩; obtain ⟨A1, c1, rfl⟩ := hi1.form; have HI1 := hid hi1; have HX1 := hid (bCl HDZ.out hb1); have HZ1 := hid (HZN.out.keep hb1); obtain ⟨z0, z1, z2, z3, y0, y1, y2, y3⟩ := HZ1.out.facts; clear hi1 hb1; have f0 := HMB.out w1 HX1.out 0 _ rfl; have f1 := HMB.out w1 HX1.out 1 _ rfl; have f2 := HMB.out w1 HX1.out 2 _ rfl; have f3 := HMB.out w1 HX1.out 3 _ rfl; have f4 := HMB.out w1 HX1.out 4 _ rfl; have f5 := HMB.out w1 HX1.out 5 _ rfl; have f6 := HMB.out w1 HX1.out 6 _ rfl; have f7 := HMB.out w1 HX1.out 7 _ rfl; have f8 := HMB.out w1 HX1.out 8 _ rfl; have f9 := HMB.out w1 HX1.out 9 _ rfl; have f10 := HMB.out w1 HX1.out 10 _ rfl; have f11 := HMB.out w1 HX1.out 11 _ rfl; have f12 := HMB.out w1 HX1.out 12 _ rfl; have f13 := HMB.out w1 HX1.out 13 _ rfl; have f14 := HMB.out w1 HX1.out 14 _ rfl; have f15 := HMB.out w1 HX1.out 15 _ rfl)
      | (go_at_call 97; (with_reducible refine (HRWX.out w1 A1 c1 HX1.out HI1.out).mono ?_); rintro e w2 ⟨v2, rfl, hr2, hb2⟩; obtain ⟨A2, c2, rfl⟩ := hr2.form; have HX2 := hid (bCl HX1.out hb2); have HZ2 := hid (HZ1.out.keep hb2); obtain ⟨z0, z1, z2, z3, y0, y1, y2, y3⟩ := HZ2.out.facts; clear hr2 hb2; have f0 := HMB.out w2 HX2.out 0 _ rfl; have f1 := HMB.out w2 HX2.out 1 _ rfl; have f2 := HMB.out w2 HX2.out 2 _ rfl; have f3 := HMB.out w2 HX2.out 3 _ rfl; have f4 := HMB.out w2 HX2.out 4 _ rfl; have f5 := HMB.out w2 HX2.out 5 _ rfl; have f6 := HMB.out w2 HX2.out 6 _ rfl; have f7 := HMB.out w2 HX2.out 7 _ rfl; have f8 := HMB.out w2 HX2.out 8 _ rfl; have f9 := HMB.out w2 HX2.out 9 _ rfl; have f10 := HMB.out w2 HX2.out 10 _ rfl; have f11 := HMB.out w2 HX2.out 11 _ rfl; have f12 := HMB.out w2 HX2.out 12 _ rfl; have f13 := HMB.out w2 HX2.out 13 _ rfl; have f14 := HMB.out w2 HX2.out 14 _ rfl; have f15 := HMB.out w2 HX2.out 15 _ rfl)
      | (go_at_call 97; (with_reducible refine (HRWX.out w1 A1 c1 HX1.out HI1.out).mono ?_); rintro e w2 ⟨v2, rfl, hr2, hb2⟩; obtain ⟨A2, c2, rfl⟩ := hr2.form; have HX2 := hid (bCl HX1.out hb2); clear hr2 hb2; have f0 := HMB.out w2 HX2.out 0 _ rfl; have f1 := HMB.out w2 HX2.out 1 _ rfl; have f2 := HMB.out w2 HX2.out 2 _ rfl; have f3 := HMB.out w2 HX2.out 3 _ rfl; have f4 := HMB.out w2 HX2.out 4 _ rfl; have f5 := HMB.out w2 HX2.out 5 _ rfl; have f6 := HMB.out w2 HX2.out 6 _ rfl; have f7 := HMB.out w2 HX2.out 7 _ rfl; have f8 := HMB.out w2 HX2.out 8 _ rfl; have f9 := HMB.out w2 HX2.out 9 _ rfl; have f10 := HMB.out w2 HX2.out 10 _ rfl; have f11 := HMB.out w2 HX2.out 11 _ rfl; have f12 := HMB.out w2 HX2.out 12 _ rfl; have f13 := HMB.out w2 HX2.out 13 _ rfl; have f14 := HMB.out w2 HX2.out 14 _ rfl; have f15 := HMB.out w2 HX2.out 15 _ rfl)
      | (go_at_call 97; (with_reducible refine (HRWX.out (w1.alloc (Obj.cells #[.int .i64 0, .string ⟨#[]⟩, .int .i64 0, .slice none 0 0] 24)) A1 c1 (bAl HX1.out _) (HI1.out.below (bNew _ _) (bNew _ _).size)).mono ?_); rintro e w2 ⟨v2, rfl, hr2, hb2⟩; obtain ⟨A2, c2, rfl⟩ := hr2.form; have HX2 := hid (bCl (bAl HX1.out _) hb2); have HZ2 := hid ((Four_.new w1 _ 24 _ rfl [.int .i64 0, .string ⟨#[]⟩, .int .i64 0, .slice none 0 0] rfl).keep hb2); have HXL := hid HX1.out.size; have ne1 : ¬ (w1.heap.size = w.heap.size) := (Nat.ne_of_gt (Nat.lt_of_lt_of_le HGTW.out HXL.out)); obtain ⟨z0, z1, z2, z3, y0, y1, y2, y3⟩ := HZ2.out.facts; clear hr2 hb2; have f0 := HMB.out w2 HX2.out 0 _ rfl; have f1 := HMB.out w2 HX2.out 1 _ rfl; have f2 := HMB.out w2 HX2.out 2 _ rfl; have f3 := HMB.out w2 HX2.out 3 _ rfl; have f4 := HMB.out w2 HX2.out 4 _ rfl; have f5 := HMB.out w2 HX2.out 5 _ rfl; have f6 := HMB.out w2 HX2.out 6 _ rfl; have f7 := HMB.out w2 HX2.out 7 _ rfl; have f8 := HMB.out w2 HX2.out 8 _ rfl; have f9 := HMB.out w2 HX2.out 9 _ rfl; have f10 := HMB.out w2 HX2.out 10 _ rfl; have f11 := HMB.out w2 HX2.out 11 _ rfl; have f12 := HMB.out w2 HX2.out 12 _ rfl; have f13 := HMB.out w2 HX2.out 13 _ rfl; have f14 := HMB.out w2 HX2.out 14 _ rfl; have f15 := HMB.out w2 HX2.out 15 _ rfl))
    all_goals
      go_wp2_with fail
      go_meet
      dsimp only [Tree.kind, Tree.text, Tree.cols, Tree.kids]
      first
        | ((with_reducible refine ⟨_, A2, c2, rfl, rfl, ?_, bAl HX2.out _⟩); exact cNew _ _ _ _ _ rfl)
        | (with_reducible exact ⟨_, _, _, rfl, rfl, (HZ2.out.set _ _ _ _ (Nat.le_refl _) HX2.out).1, (HZ2.out.set _ _ _ _ (Nat.le_refl _) HX2.out).2⟩)
        | (with_reducible exact ⟨_, _, _, rfl, rfl, (HZ2.out.set _ _ _ _ HXL.out HX2.out).1, (HZ2.out.set _ _ _ _ HXL.out HX2.out).2⟩)
  case rest =>
    obtain ⟨g4, A4, c4, rfl, rfl, hc4, hbx⟩ := hcut
    have HBX := hid hbx
    have HC4 := hid hc4
    have hg4 := cIn hc4
    have HG4 := hid hg4
    have HKX : Hid (∀ W, Below wc.heap.size wc W → W.cell? ⟨g4, 3, none⟩ = some (.slice A4 rs.length c4)) := fun W hW => (hW.cell (p := ⟨g4, 3, none⟩) HG4.out).trans HC4.out
    have f0 := HMB.out wc HBX.out 0 _ rfl
    have f1 := HMB.out wc HBX.out 1 _ rfl
    have f2 := HMB.out wc HBX.out 2 _ rfl
    have f3 := HMB.out wc HBX.out 3 _ rfl
    have f4 := HMB.out wc HBX.out 4 _ rfl
    have f5 := HMB.out wc HBX.out 5 _ rfl
    have f6 := HMB.out wc HBX.out 6 _ rfl
    have f7 := HMB.out wc HBX.out 7 _ rfl
    have f8 := HMB.out wc HBX.out 8 _ rfl
    have f9 := HMB.out wc HBX.out 9 _ rfl
    have f10 := HMB.out wc HBX.out 10 _ rfl
    have f11 := HMB.out wc HBX.out 11 _ rfl
    have f12 := HMB.out wc HBX.out 12 _ rfl
    have f13 := HMB.out wc HBX.out 13 _ rfl
    have f14 := HMB.out wc HBX.out 14 _ rfl
    have f15 := HMB.out wc HBX.out 15 _ rfl
    have HDR2 : Hid (Below wc.heap.size wc wc.drew) := (Below.refl _ _).drew
    have HDL2 : Hid (Below wc.heap.size wc (wc.alloc (.cells #[.int .i64 (rs.length : Int)] 3)).drew) := (bNew _ _).drew
    have HLI : Hid (IntsR (wc.alloc (.cells #[.int .i64 (rs.length : Int)] 3)).drew (Lt (wc.alloc (.cells #[.int .i64 (rs.length : Int)] 3)).drew.heap.size) [(rs.length : Int)] (.slice (some ⟨wc.heap.size, 0, none⟩) 1 1)) := ints_lit wc [(rs.length : Int)] (by simpa using HN.out) (by unfold Lt; simp) _ 1 rfl rfl (by simp [maxLen]) _ _ rfl
    have HCON : Hid (∀ W A1 c1 A2 g, g = W.heap.size → IntsR W (Lt W.heap.size) q (.slice A1 q.length c1) → IntsR W (Lt W.heap.size) [(rs.length : Int)] (.slice A2 1 1) → Calls Tryz.prog 45 #[.slice (some ⟨g, 0, none⟩) 2 2] (W.alloc (.cells #[.slice A1 q.length c1, .slice A2 1 1] 26)) (OwnPost (W.alloc (.cells #[.slice A1 q.length c1, .slice A2 1 1] 26)) (q ++ [(rs.length : Int)]))) := fun W A1 c1 A2 g hg h1 h2 => by
      subst hg
      have h := concat_any [q, [(rs.length : Int)]] _ _ (rows_two h1 h2 W.heap.size rfl 26) (by have := HQL.out; simp; omega)
      have e : [q, [(rs.length : Int)]].flatten = q ++ [(rs.length : Int)] := by simp
      rw [e] at h
      exact h
    have HZS : Hid (∀ W : World, W.heap.size + 1 = (W.alloc (.cells #[.int .i64 (rs.length : Int)] 3)).heap.size) := fun W => by simp
    have HL1 : Hid (∀ W : World, IntsR (W.alloc (.cells #[.int .i64 (rs.length : Int)] 3)) (Lt (W.alloc (.cells #[.int .i64 (rs.length : Int)] 3)).heap.size) [(rs.length : Int)] (.slice (some ⟨W.heap.size, 0, none⟩) 1 1)) := fun W => ints_lit W [(rs.length : Int)] (by simpa using HN.out) (by unfold Lt; simp) _ 1 rfl rfl (by simp [maxLen]) _ _ rfl
    clear hbx hg4
    go_wp2_with fail
    go_region_held3 (fun w' => w'.cell? ⟨w.heap.size, 0, none⟩ = some (.int .i64 tk) ∧ w'.cell? ⟨w.heap.size, 1, none⟩ = some (.string tx) ∧ w'.cell? ⟨w.heap.size, 2, none⟩ = some (.int .i64 tc) ∧ w'.cell? ⟨w.heap.size, 3, none⟩ = some (.slice A tn cap) ∧ w'.cell? ⟨w.heap.size, 4, none⟩ = some (.int .i64 kind) ∧ w'.cell? ⟨w.heap.size, 5, none⟩ = some (.string name) ∧ w'.cell? ⟨w.heap.size, 6, none⟩ = some (.int .i64 size) ∧ w'.cell? ⟨w.heap.size, 7, none⟩ = some (.int .i64 bw) ∧ w'.cell? ⟨w.heap.size, 8, none⟩ = some (.int .i64 bh) ∧ w'.cell? ⟨w.heap.size, 9, none⟩ = some (.int .i64 bd) ∧ w'.cell? ⟨w.heap.size, 10, none⟩ = some (.int .i64 bx) ∧ w'.cell? ⟨w.heap.size, 11, none⟩ = some (.int .i64 by_) ∧ w'.cell? ⟨w.heap.size, 12, none⟩ = some (.slice Ak kn ck) ∧ w'.cell? ⟨w.heap.size, 13, none⟩ = some (.int .i64 of_) ∧ w'.cell? ⟨w.heap.size, 14, none⟩ = some (.slice As sn cs) ∧ w'.cell? ⟨w.heap.size, 15, none⟩ = some (.slice Ap pn cp) ∧ w'.cell? ⟨g4, 3, none⟩ = some (.slice A4 rs.length c4)) (go_keep) (first
      | (go_at_call 96; (with_reducible refine (HPA.out _ (bCl HBX.out HDR2.out)).mono ?_); rintro e w1 ⟨v1, rfl, hi1, hb1⟩; obtain ⟨A1, c1, rfl⟩ := hi1.form; have HI1 := hid hi1; have HX1 := hid (bCl HBX.out (bDr hb1)); have HY1 : Hid (Below wc.heap.size wc w1) := bDr hb1; clear hi1 hb1; have hc4 := HKX.out w1 HY1.out; have f0 := HMB.out w1 HX1.out 0 _ rfl; have f1 := HMB.out w1 HX1.out 1 _ rfl; have f2 := HMB.out w1 HX1.out 2 _ rfl; have f3 := HMB.out w1 HX1.out 3 _ rfl; have f4 := HMB.out w1 HX1.out 4 _ rfl; have f5 := HMB.out w1 HX1.out 5 _ rfl; have f6 := HMB.out w1 HX1.out 6 _ rfl; have f7 := HMB.out w1 HX1.out 7 _ rfl; have f8 := HMB.out w1 HX1.out 8 _ rfl; have f9 := HMB.out w1 HX1.out 9 _ rfl; have f10 := HMB.out w1 HX1.out 10 _ rfl; have f11 := HMB.out w1 HX1.out 11 _ rfl; have f12 := HMB.out w1 HX1.out 12 _ rfl; have f13 := HMB.out w1 HX1.out 13 _ rfl; have f14 := HMB.out w1 HX1.out 14 _ rfl; have f15 := HMB.out w1 HX1.out 15 _ rfl)
      | (go_at_call 96; (with_reducible refine (HPA.out _ (bCl HBX.out HDL2.out)).mono ?_); rintro e w1 ⟨v1, rfl, hi1, hb1⟩; obtain ⟨A1, c1, rfl⟩ := hi1.form; have HI1 := hid hi1; have HY1 := hid (bCl HDL2.out hb1); have HX1 := hid (bCl HBX.out HY1.out); have HLJ := hid (HLI.out.below hb1 hb1.size); clear hi1 hb1; have hc4 := HKX.out w1 HY1.out; have f0 := HMB.out w1 HX1.out 0 _ rfl; have f1 := HMB.out w1 HX1.out 1 _ rfl; have f2 := HMB.out w1 HX1.out 2 _ rfl; have f3 := HMB.out w1 HX1.out 3 _ rfl; have f4 := HMB.out w1 HX1.out 4 _ rfl; have f5 := HMB.out w1 HX1.out 5 _ rfl; have f6 := HMB.out w1 HX1.out 6 _ rfl; have f7 := HMB.out w1 HX1.out 7 _ rfl; have f8 := HMB.out w1 HX1.out 8 _ rfl; have f9 := HMB.out w1 HX1.out 9 _ rfl; have f10 := HMB.out w1 HX1.out 10 _ rfl; have f11 := HMB.out w1 HX1.out 11 _ rfl; have f12 := HMB.out w1 HX1.out 12 _ rfl; have f13 := HMB.out w1 HX1.out 13 _ rfl; have f14 := HMB.out w1 HX1.out 14 _ rfl; have f15 := HMB.out w1 HX1.out 15 _ rfl)
      | (go_at_call 45; (with_reducible refine (HCON.out w1 A1 c1 _ _ rfl HI1.out HLJ.out).mono ?_); rintro e w2 ⟨v2, rfl, ho2, hb2⟩; have HB2X := hid hb2; have HO2 := hid (ho2.ints (S := fun k => w1.heap.size ≤ k ∧ k < w2.heap.size) (fun k h1 h2 => ⟨Nat.le_trans (bNew _ _).size h1, h2⟩)); have HX2 := hid (bCl HX1.out (bCl (bNew _ _) hb2)); clear ho2 hb2; have hc4 := HKX.out w2 (bCl HY1.out (bCl (bNew _ _) HB2X.out)); have f0 := HMB.out w2 HX2.out 0 _ rfl; have f1 := HMB.out w2 HX2.out 1 _ rfl; have f2 := HMB.out w2 HX2.out 2 _ rfl; have f3 := HMB.out w2 HX2.out 3 _ rfl; have f4 := HMB.out w2 HX2.out 4 _ rfl; have f5 := HMB.out w2 HX2.out 5 _ rfl; have f6 := HMB.out w2 HX2.out 6 _ rfl; have f7 := HMB.out w2 HX2.out 7 _ rfl; have f8 := HMB.out w2 HX2.out 8 _ rfl; have f9 := HMB.out w2 HX2.out 9 _ rfl; have f10 := HMB.out w2 HX2.out 10 _ rfl; have f11 := HMB.out w2 HX2.out 11 _ rfl; have f12 := HMB.out w2 HX2.out 12 _ rfl; have f13 := HMB.out w2 HX2.out 13 _ rfl; have f14 := HMB.out w2 HX2.out 14 _ rfl; have f15 := HMB.out w2 HX2.out 15 _ rfl)
      | (go_at_call 45; (with_reducible refine (HCON.out (w1.alloc (.cells #[.int .i64 (rs.length : Int)] 3)) A1 c1 _ _ (HZS.out w1) (HI1.out.below (bNew _ _) (bNew _ _).size) (HL1.out w1)).mono ?_); rintro e w2 ⟨v2, rfl, ho2, hb2⟩; have HB2X := hid hb2; have HO2 := hid (ho2.ints (S := fun k => w1.heap.size ≤ k ∧ k < w2.heap.size) (fun k h1 h2 => ⟨Nat.le_trans (bNew _ _).size (Nat.le_trans (bNew _ _).size h1), h2⟩)); have HX2 := hid (bCl HX1.out (bCl (bAl (bNew _ _) _) hb2)); clear ho2 hb2; have hc4 := HKX.out w2 (bCl HY1.out (bCl (bAl (bNew _ _) _) HB2X.out)); have f0 := HMB.out w2 HX2.out 0 _ rfl; have f1 := HMB.out w2 HX2.out 1 _ rfl; have f2 := HMB.out w2 HX2.out 2 _ rfl; have f3 := HMB.out w2 HX2.out 3 _ rfl; have f4 := HMB.out w2 HX2.out 4 _ rfl; have f5 := HMB.out w2 HX2.out 5 _ rfl; have f6 := HMB.out w2 HX2.out 6 _ rfl; have f7 := HMB.out w2 HX2.out 7 _ rfl; have f8 := HMB.out w2 HX2.out 8 _ rfl; have f9 := HMB.out w2 HX2.out 9 _ rfl; have f10 := HMB.out w2 HX2.out 10 _ rfl; have f11 := HMB.out w2 HX2.out 11 _ rfl; have f12 := HMB.out w2 HX2.out 12 _ rfl; have f13 := HMB.out w2 HX2.out 13 _ rfl; have f14 := HMB.out w2 HX2.out 14 _ rfl; have f15 := HMB.out w2 HX2.out 15 _ rfl))
    all_goals
      go_wp2_with fail
      go_ret2
      exact ⟨bCl HB0.out HX2.out, _, rfl, HO2.out.keep (fun _ _ => rfl) (fun k hk => ⟨Nat.le_trans HB0.out.size (Nat.le_trans HX1.out.size hk.1), hk.2⟩)⟩
end
end Go.Proofs.YtmahiejfniaahaaGreatDoor
