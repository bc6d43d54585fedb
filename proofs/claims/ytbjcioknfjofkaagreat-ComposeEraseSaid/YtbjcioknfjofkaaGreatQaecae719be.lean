/- Texts put together. -/
import Derived.Test.YtbjcioknfjofkaaGreatQ1203fa1d6d
import Derived.Test.YtbjcioknfjofkaaGreatQ0a2d1212ff
import Derived.Test.YtbjcioknfjofkaaGreatQ5f8487fc8c
import Derived.Test.YtbjcioknfjofkaaGreatQbd13932ac5
set_option linter.unusedVariables false
set_option linter.unusedSimpArgs false
set_option maxRecDepth 100000
namespace Go.Proofs.YtbjcioknfjofkaaGreat
open Go.RowKit
def FindL (w:World) (T:Nat→Prop) (g0 o0:Nat) (t:Tree) (p:List Int) (e:Ending) (w':World):Prop :=
 (∃ n,w' = w.drewN n)∧((rowS t p = none∧∃ q,e = .returned (.tuple #[.pointer q,.bool false]))∨∃ t' g o,rowS t p = some t'∧e = .returned (.tuple #[.pointer (some ⟨g,o,none⟩),.bool true])∧zC3 w T g o t'∧Loc w T g0 o0 t (p.map Int.toNat) g o)
def zOd (w:World) (T:Nat→Prop) (g0 o0:Nat) (t:Tree) (p p':List Int) (g o:Nat) (t':Tree):Prop :=
 ∃ pre:List Nat,p.map Int.toNat = pre ++ p'.map Int.toNat∧∀ r g' o',Loc w T g o t' r g' o'→Loc w T g0 o0 t (pre ++ r) g' o'
theorem zOd.step {w:World} {T:Nat→Prop} {g0 o0 g o b x c:Nat} {t t':Tree} {p q:List Int} {i:Nat} (h:zOd w T g0 o0 t p ((i:Int) :: q) g o t') (hi:i < t'.kids.length) (hc:w.cell? ⟨g,o + 3,none⟩ = some (.slice (some ⟨b,x,none⟩) t'.kids.length c)) (hT:T b):zOd w T g0 o0 t p q b (x + i * 4) t'.kids[i]:=by
 obtain ⟨pre,h1,h2⟩:=h
 refine ⟨pre ++ [i],by rw [h1];simp,fun r g' o' hl=>?_⟩
 have h3:=h2 (i :: r) g' o' (.step g o t' i r b x c hi g' o' hc hT hl)
 simpa using h3
set_option maxHeartbeats 2000000 in
theorem zKh (t : Tree) (p : List Int) (g0 o0 : Nat) (b : Value) (w : World) (T : Nat → Prop) (hT : ∀ k, T k → k < w.heap.size) (hg0 : g0 < w.heap.size) (hn0 : zC3 w T g0 o0 t) (hp : zAh w (Lt w.heap.size) p b) :
    Calls Tryz.prog 104 #[.pointer (some ⟨g0, o0, none⟩), b] w (FindL w T g0 o0 t p) := by
  have HTT := hid hT
  have HG0 := hid hg0
  clear hT hg0
  have HN := hid hn0
  have HP := hid hp
  obtain ⟨A', cap', rfl⟩ := hp.form
  clear hn0 hp
  go_enter Tryz.func104, Tryz.ntmps104
  go_wp2_with fail
  go_loopw [1, 0] (fun c r wr => (∃ n, wr = w.drewN n) ∧ ∃ (p' : List Int) (t' : Tree) (g o : Nat), r = .pointer (some ⟨g, o, none⟩) ∧ zAh w (Lt w.heap.size) p' c ∧ g < w.heap.size ∧ zC3 w T g o t' ∧ zOd w T g0 o0 t p p' g o t' ∧ rowS t' p' = rowS t p)
    (fun c _ _ => match c with | .slice _ n _ => n | _ => 0)
  case atStart => exact ⟨⟨0, rfl⟩, p, t, g0, o0, rfl, HP.out, HG0.out, HN.out, ⟨[], rfl, fun r g' o' h => h⟩, rfl⟩
  case round =>
    obtain ⟨⟨n, rfl⟩, p', t', g, o, rfl, hp', hg, hn, hpath, hrest⟩ := hrel
    have HPATH := hid hpath
    clear hpath
    have HR := hid hrest
    have HP' := hid hp'
    have HNN := hid hn
    obtain ⟨_, ⟨c0, c1, c2, c3⟩, hokn, A1, cap1, rs, rfl, h4, h5, h6, h7⟩ := hn
    obtain ⟨A2, cap2, ws, rfl, h8, h9, h10, h11⟩ := hp'
    have hl1 : p'.length ≤ 9223372036854775807 := by unfold maxLen at h9; omega
    have hl2 : t'.kids.length ≤ 9223372036854775807 := by unfold maxLen at h5; omega
    have hgl : g < w.heap.size := hg
    clear hrest HN HP
    match p', hl1, HR, HP', HPATH, h8, h10, h11 with
    | [], hl1, HR, HP', HPATH, h8, h10, h11 =>
      have HF : Hid (rowS t p = some t') := by show _ = _; rw [← HR.out]; simp [rowS]
      clear h10 h11 h6 h7
      go_wp2_with fail
      refine bodyPost_ret (v := .tuple #[.pointer (some ⟨g, o, none⟩), .bool true]) (by simp [results, Tryz.results104, go_sem]) rfl ?_
      exact ⟨by first | exact ⟨_, rfl⟩ | (simp only [World.drewN_drewN]; exact ⟨_, rfl⟩), .inr ⟨_, _, _, HF.out, rfl, HNN.out, by obtain ⟨pre, h1, h2⟩ := HPATH.out; rw [h1]; exact h2 [] _ _ (.here _ _ _)⟩⟩
    | [i], hl1, HR, HP', HPATH, h8, h10, h11 =>
      have HF : Hid (rowS t p = none) := by show _ = _; rw [← HR.out]; simp [rowS]
      clear h10 h11 h6 h7
      go_wp2_with fail
      refine bodyPost_ret (v := .tuple #[.pointer (some ⟨g, o, none⟩), .bool false]) (by simp [results, Tryz.results104, go_sem]) rfl ?_
      exact ⟨by first | exact ⟨_, rfl⟩ | (simp only [World.drewN_drewN]; exact ⟨_, rfl⟩), .inl ⟨HF.out, _, rfl⟩⟩
    | i :: k :: q, hl1, HR, HP', HPATH, h8, h10, h11 =>
      obtain ⟨g', o', rfl, hg', hi, a0⟩ := zB2 h10 h11 (k := 0) (by simp)
      obtain ⟨g2, o2, hq, hg2, hk, a1⟩ := zB2 h10 h11 (k := 1) (by simp)
      cases hq
      simp only [List.getElem_cons_zero, List.getElem_cons_succ, Nat.add_zero] at a0 a1 hi hk
      obtain ⟨A3, hsl, hcut⟩ := zNc intE Tryz.underlying31 zCm (some ⟨g', o', none⟩) (i :: k :: q).length cap2 2 2 rfl (by simp)
      have HCU := hid (hcut _ _ _ HP'.out)
      simp only [List.drop_succ_cons, List.drop_zero] at HCU
      have i3 : (2 : Int) ≤ ((i :: k :: q).length : Int) := by simp; omega
      have hlen2 : (i :: k :: q).length - 2 = q.length := by simp
      have hpq : Hid (q.length < (i :: k :: q).length) := by show _ < _; simp; omega
      rw [hlen2] at hsl HCU
      have m0 : (0 : Int) < ((i :: k :: q).length : Int) := by simp; omega
      have m2 : 0 < (i :: k :: q).length := by simp
      have m1 : 1 < (i :: k :: q).length := by simp
      have m3 : (1 : Int) < ((i :: k :: q).length : Int) := by simp; omega
      clear hcut hlen2 h10 h11
      generalize (i :: k :: q).length = m at *
      have HX : Hid (rowS t p = rowS t' (i :: k :: q)) := HR.out.symm
      have HPS := hid (show rowS t' (i :: k :: q) = _ by rw [rowS])
      clear HR
      by_cases hx : 0 ≤ i ∧ i.toNat < t'.kids.length
      · obtain ⟨hx1, hx2⟩ := hx
        obtain ⟨i', rfl⟩ : ∃ i' : Nat, i = i' := ⟨i.toNat, by omega⟩
        simp only [Int.toNat_natCast] at hx2
        obtain ⟨gk, ok, B1, b1, bs1, rfl, hg1, t0, t1, t2, t3, _, _, hts, hc5, hc6, hrd, hls⟩ := zAy h6 h7 hx2
        have HPATH2 := hid (HPATH.out.step hx2 c3 hg1)
        have HPT := HPATH
        clear HPATH
        have j0 : decide ((i' : Int) < 0) = false := by simp
        have j1 : ¬ (i' : Int) < 0 := by omega
        have j2 : decide ((t'.kids.length : Int) ≤ i') = false := by simp; omega
        have j3 : (i' : Int) < (t'.kids.length : Int) := by omega
        have hg1l : gk < w.heap.size := HTT.out _ hg1
        have hl3 : t'.kids[i'].kids.length ≤ 9223372036854775807 := by unfold maxLen at hc6; omega
        by_cases hy : 0 ≤ k ∧ k.toNat < t'.kids[i'].kids.length
        · obtain ⟨hy1, hy2⟩ := hy
          obtain ⟨k', rfl⟩ : ∃ k' : Nat, k = k' := ⟨k.toNat, by omega⟩
          simp only [Int.toNat_natCast] at hy2
          obtain ⟨gl, ol, B2, b2, bs2, rfl, hg2', s0, s1, s2, s3, hk1, hk2, hts2, hd5, hd6, hrd2, hls2⟩ := zAy hrd hls hy2
          have HPATH3 := hid (HPATH2.out.step hy2 t3 hg2')
          clear HPATH2
          have j4 : decide ((k' : Int) < 0) = false := by simp
          have j5 : ¬ (k' : Int) < 0 := by omega
          have j6 : decide ((t'.kids[i'].kids.length : Int) ≤ k') = false := by simp; omega
          have j7 : (k' : Int) < (t'.kids[i'].kids.length : Int) := by omega
          have HF : Hid (rowS t'.kids[i'].kids[k'] q = rowS t p) := by
            show _ = _
            rw [HX.out, rowS, dif_pos ⟨by omega, by simpa using hx2⟩, dif_pos ⟨by omega, by simpa using hy2⟩]; rfl
          have HN2 : Hid (zC3 w T gl (ol + k' * 4) t'.kids[i'].kids[k']) := ⟨_, ⟨s0, s1, s2, s3⟩, ⟨hk1, hk2, hts2⟩, _, _, bs2, rfl, hd5, hd6, hrd2, hls2⟩
          have hg2l : gl < w.heap.size := HTT.out _ hg2'
          clear hk1 hk2
          clear hrd hls hrd2 hls2 h6 h7 HX HPS hd5 hd6 hc5 hc6
          go_wp2_with fail
          go_quiet (fail)
          go_wp2_with fail
          go_roundw
          case rel => exact ⟨by first | exact ⟨_, rfl⟩ | (simp only [World.drewN_drewN]; exact ⟨_, rfl⟩), q, _, _, _, rfl, HCU.out, hg2l, HN2.out, HPATH3.out, HF.out⟩
          case measure => exact hpq.out
        · have HF : Hid (rowS t p = none) := by
            show _ = _
            rw [HX.out, rowS, dif_pos ⟨by omega, by simpa using hx2⟩, dif_neg (by simpa using hy)]
          have i2 : k < 0 ∨ (0 ≤ k ∧ (t'.kids[i'].kids.length : Int) ≤ k) := by omega
          clear hrd hls h6 h7 HX HPS hc5 hc6 hy
          rcases i2 with i2 | ⟨i2, i3⟩
          · have j4 : decide (k < 0) = true := decide_eq_true i2
            go_wp2_with fail
            go_quiet (fail)
            go_wp2_with fail
            refine bodyPost_ret (v := .tuple #[.pointer none, .bool false]) (by simp [results, Tryz.results104, go_sem]) rfl ?_
            exact ⟨by first | exact ⟨_, rfl⟩ | (simp only [World.drewN_drewN]; exact ⟨_, rfl⟩), .inl ⟨HF.out, _, rfl⟩⟩
          · have j4 : decide (k < 0) = false := by simp; omega
            have j5 : decide ((t'.kids[i'].kids.length : Int) ≤ k) = true := decide_eq_true i3
            go_wp2_with fail
            go_quiet (fail)
            go_wp2_with fail
            refine bodyPost_ret (v := .tuple #[.pointer none, .bool false]) (by simp [results, Tryz.results104, go_sem]) rfl ?_
            exact ⟨by first | exact ⟨_, rfl⟩ | (simp only [World.drewN_drewN]; exact ⟨_, rfl⟩), .inl ⟨HF.out, _, rfl⟩⟩
      · have HF : Hid (rowS t p = none) := by show _ = _; rw [HX.out, rowS, dif_neg hx]
        have i2 : i < 0 ∨ (0 ≤ i ∧ (t'.kids.length : Int) ≤ i) := by omega
        clear h6 h7 HX HPS hx
        rcases i2 with i2 | ⟨i2, i3⟩
        · have j4 : decide (i < 0) = true := decide_eq_true i2
          go_wp2_with fail
          go_quiet (fail)
          go_wp2_with fail
          refine bodyPost_ret (v := .tuple #[.pointer none, .bool false]) (by simp [results, Tryz.results104, go_sem]) rfl ?_
          exact ⟨by first | exact ⟨_, rfl⟩ | (simp only [World.drewN_drewN]; exact ⟨_, rfl⟩), .inl ⟨HF.out, _, rfl⟩⟩
        · have j4 : decide (i < 0) = false := by simp; omega
          have j5 : decide ((t'.kids.length : Int) ≤ i) = true := decide_eq_true i3
          go_wp2_with fail
          go_quiet (fail)
          go_wp2_with fail
          refine bodyPost_ret (v := .tuple #[.pointer none, .bool false]) (by simp [results, Tryz.results104, go_sem]) rfl ?_
          exact ⟨by first | exact ⟨_, rfl⟩ | (simp only [World.drewN_drewN]; exact ⟨_, rfl⟩), .inl ⟨HF.out, _, rfl⟩⟩
set_option maxHeartbeats 1000000 in
theorem zGz (t:Tree) (p:List Int) (A:Option Addr) (cap:Nat) (b:Value) (w:World) (hv:zAa zAb w (Lt w.heap.size) t.kids (.slice A t.kids.length cap)) (htx:t.text.size≤maxLen) (hp:zAh w (Lt w.heap.size) p b) :
  Calls Tryz.prog 153 #[.agg #[.int .i64 t.kind,.string t.text,.int .i64 t.cols,.slice A t.kids.length cap],b] w fun e w'=>e = .returned (.bool (zAf t && zAs t p))∧Below w.heap.size w w':=by
 have hb0:Below w.heap.size w (w.alloc (Obj.cells #[.int .i64 t.kind,.string t.text,.int .i64 t.cols,.slice A t.kids.length cap] 24)):=zAt _ _
 have HB0:=hid hb0
 have C1:Hid (∀ W,Below w.heap.size w W→Calls Tryz.prog 49 #[.agg #[.int .i64 t.kind,.string t.text,.int .i64 t.cols,.slice A t.kids.length cap]] W fun e w'=>e = .returned (.bool (zAf t))∧Below W.heap.size W w'):=fun W hW=>zCc t A cap W (hv.below hW hW.size) htx
 have C2:Hid (∀ W,Below w.heap.size w W→Calls Tryz.prog 155 #[.agg #[.int .i64 t.kind,.string t.text,.int .i64 t.cols,.slice A t.kids.length cap],b] W fun e w'=>e = .returned (.bool (zAs t p))∧Below W.heap.size W w'):=fun W hW=>in_any t p A cap b W (hv.below hW hW.size) htx (hp.below hW hW.size)
 have KB:Hid (∀ W,Below (w.alloc (Obj.cells #[.int .i64 t.kind,.string t.text,.int .i64 t.cols,.slice A t.kids.length cap] 24)).heap.size (w.alloc (Obj.cells #[.int .i64 t.kind,.string t.text,.int .i64 t.cols,.slice A t.kids.length cap] 24)) W→NBox W w.heap.size t.kind t.cols t.text (.slice A t.kids.length cap)) :=
  fun W hW=>(NBox.new w t.kind t.cols t.text _).below hW (by simp)
 obtain ⟨A',cap',rfl⟩:=hp.form
 generalize zAs t p = b2 at *
 generalize zAf t = b1 at *
 obtain ⟨tk,tx,tc,ts⟩:=t
 simp only [Tree.kind,Tree.text,Tree.cols,Tree.kids] at *
 clear hv htx hp hb0
 cases b1
 ·go_enter Tryz.func153,Tryz.ntmps153
  go_wp2_with fail
  refine (C1.out _ HB0.out).mono ?_
  rintro e w1 ⟨rfl,hb1⟩
  have HB1:=hid (HB0.out.trans (hb1.mono HB0.out.size))
  clear hb1
  go_wp2_with fail
  go_ret
  exact ⟨rfl,HB1.out⟩
 ·go_enter Tryz.func153,Tryz.ntmps153
  go_wp2_with fail
  refine (C1.out _ HB0.out).mono ?_
  rintro e w1 ⟨rfl,hb1⟩
  have HB1:=hid (HB0.out.trans (hb1.mono HB0.out.size))
  obtain ⟨p0,p1,p2,p3⟩:=KB.out w1 hb1
  clear hb1
  go_wp2_with fail
  refine (C2.out _ HB1.out).mono ?_
  rintro e w2 ⟨rfl,hb2⟩
  have HB2:=hid (HB1.out.trans (hb2.mono HB1.out.size))
  clear hb2 p0 p1 p2 p3
  go_wp2_with fail
  go_ret
  exact ⟨rfl,HB2.out⟩
def zG5 (w:World) (b1 b2 b3:Bool) (r:List Int × Int × Int) (e:Ending) (w':World):Prop :=
 Below w.heap.size w w'∧((b1 = false∧e = .returned (.tuple #[.agg #[.slice none 0 0,.int .i64 0,.int .i64 0],.int .i64 1])) ∨
  (b1 = true∧(b2 && b3) = false∧e = .returned (.tuple #[.agg #[.slice none 0 0,.int .i64 0,.int .i64 0],.int .i64 2])) ∨
  (b1 = true∧b2 = true∧b3 = true∧∃ v,e = .returned (.tuple #[.agg #[v,.int .i64 r.2.1,.int .i64 r.2.2],.int .i64 0])∧zAh w' (fun k=>w.heap.size≤k∧k < w'.heap.size) r.1 v))
theorem zHf {t:Tree} {p:List Int} (hc:zAe t≤1000) (h:zAs t p = true):0 < p.length∧p.length≤1000000∧∀ x ∈ p,0≤x∧x≤1000000:=by
 obtain ⟨h1,h2⟩:=zKd t p h
 have hd:=zDl t
 refine ⟨?_,by omega,fun x hx=>?_⟩
 ·rcases p with _ | ⟨_,_⟩
  ·simp [zAs] at h
  ·simp
 ·have:=h2 x hx;omega
set_option maxHeartbeats 2000000 in
theorem zFj (t:Tree) (a b:List Int) (A:Option Addr) (cap:Nat) (va vb:Value) (w:World) (hv:zAa zAb w (Lt w.heap.size) t.kids (.slice A t.kids.length cap)) (htx:t.text.size≤maxLen) (ha:zAh w (Lt w.heap.size) a va) (hb:zAh w (Lt w.heap.size) b vb) :
  Calls Tryz.prog 103 #[.agg #[.int .i64 t.kind,.string t.text,.int .i64 t.cols,.slice A t.kids.length cap],va,vb] w (zG5 w (zAf t) (zAs t a) (zAs t b) (btS a b)):=by
 obtain ⟨Aa,ca,rfl⟩:=ha.form
 obtain ⟨Ab,cb,rfl⟩:=hb.form
 have C1:Hid (∀ W,Below w.heap.size w W→Calls Tryz.prog 49 #[.agg #[.int .i64 t.kind,.string t.text,.int .i64 t.cols,.slice A t.kids.length cap]] W fun e w'=>e = .returned (.bool (zAf t))∧Below W.heap.size W w'):=fun W hW=>zCc t A cap W (hv.below hW hW.size) htx
 have C2:Hid (∀ W,Below w.heap.size w W→zAf t = true→Calls Tryz.prog 153 #[.agg #[.int .i64 t.kind,.string t.text,.int .i64 t.cols,.slice A t.kids.length cap],.slice Aa a.length ca] W fun e w'=>e = .returned (.bool (zAs t a))∧Below W.heap.size W w'):=fun W hW h=>by
  have:=zGz t a A cap _ W (hv.below hW hW.size) htx (ha.below hW hW.size)
  rwa [h,Bool.true_and] at this
 have C3:Hid (∀ W,Below w.heap.size w W→zAf t = true→Calls Tryz.prog 153 #[.agg #[.int .i64 t.kind,.string t.text,.int .i64 t.cols,.slice A t.kids.length cap],.slice Ab b.length cb] W fun e w'=>e = .returned (.bool (zAs t b))∧Below W.heap.size W w'):=fun W hW h=>by
  have:=zGz t b A cap _ W (hv.below hW hW.size) htx (hb.below hW hW.size)
  rwa [h,Bool.true_and] at this
 have C4:Hid (∀ W,Below w.heap.size w W→zAf t = true→zAs t a = true→zAs t b = true→Calls Tryz.prog 154 #[.slice Aa a.length ca,.slice Ab b.length cb] W (zMg W (btS a b))):=fun W hW h1 h2 h3=>by
  have hc:zAe t≤1000:=by unfold zAf at h1;simp only [Bool.and_eq_true,decide_eq_true_eq] at h1;omega
  obtain ⟨x1,x2,x3⟩:=zHf hc h2
  obtain ⟨y1,y2,y3⟩:=zHf hc h3
  exact zNh a b Aa Ab ca cb W (ha.below hW hW.size) (hb.below hW hW.size) x1 y1 ⟨x2,y2⟩ x3 y3
 generalize btS a b = r at *
 generalize zAs t a = b2 at *
 generalize zAs t b = b3 at *
 generalize zAf t = b1 at *
 obtain ⟨tk,tx,tc,ts⟩:=t
 simp only [Tree.kind,Tree.text,Tree.cols,Tree.kids] at *
 clear hv htx ha hb
 generalize hW0:(w.alloc (Obj.cells #[.int .i64 tk,.string tx,.int .i64 tc,.slice A ts.length cap] 24)).alloc (.cells #[.slice none 0 0,.int .i64 0,.int .i64 0] 46) = W0
 have KB:Hid (∀ W,Below W0.heap.size W0 W→(W.cell? ⟨w.heap.size,0,none⟩ = some (.int .i64 tk)∧W.cell? ⟨w.heap.size,1,none⟩ = some (.string tx)∧W.cell? ⟨w.heap.size,2,none⟩ = some (.int .i64 tc)∧W.cell? ⟨w.heap.size,3,none⟩ = some (.slice A ts.length cap)) ∧
   (W.cell? ⟨w.heap.size + 1,0,none⟩ = some (.slice none 0 0)∧W.cell? ⟨w.heap.size + 1,1,none⟩ = some (.int .i64 0)∧W.cell? ⟨w.heap.size + 1,2,none⟩ = some (.int .i64 0)) ∧
   (W.frozen? ⟨w.heap.size + 1,0,none⟩ = false∧W.frozen? ⟨w.heap.size + 1,1,none⟩ = false∧W.frozen? ⟨w.heap.size + 1,2,none⟩ = false)∧Below w.heap.size w W∧w.heap.size + 1 < W.heap.size):=by
  intro W hW
  have hz:W0.heap.size = w.heap.size + 1 + 1:=by rw [← hW0];simp
  have hc:=(bcell hW).1
  have hf:=(bcell hW).2
  have hbb:Below w.heap.size w W0:=by rw [← hW0];exact Below.alloc (zAt _ _) (by simp) _
  refine ⟨⟨(hc _ _ (by omega)).trans ?_,(hc _ _ (by omega)).trans ?_,(hc _ _ (by omega)).trans ?_,(hc _ _ (by omega)).trans ?_⟩,⟨(hc _ _ (by omega)).trans ?_,(hc _ _ (by omega)).trans ?_,(hc _ _ (by omega)).trans ?_⟩,⟨(hf _ _ (by omega)).trans ?_,(hf _ _ (by omega)).trans ?_,(hf _ _ (by omega)).trans ?_⟩,hbb.trans (hW.mono hbb.size),by have:=hW.size;omega⟩
  all_goals (rw [← hW0];first | exact zD1 _ _ _ _ _ _ rfl | exact na_c _ _ _ _ _ (by simp) | exact na_f _ _ _ _ _ (by simp))
 rcases b1 with _ | _
 ·clear C2 C3 C4
  obtain ⟨⟨m0,m1,m2,m3⟩,⟨c0,c1,c2⟩,⟨f0,f1,f2⟩,hbw0,hz0⟩:=KB.out W0 (Below.refl _ _)
  have HBW0:=hid hbw0
  clear hbw0
  go_enter Tryz.func103,Tryz.ntmps103
  go_wp2_with fail
  refine (C1.out _ HBW0.out).mono ?_
  rintro e w1 ⟨rfl,hb1⟩
  clear m0 m1 m2 m3 c0 c1 c2 f0 f1 f2 hz0
  obtain ⟨⟨m0,m1,m2,m3⟩,hr1,⟨f0,f1,f2⟩,hbw1,hz1⟩:=KB.out w1 hb1
  have HBL1:=hid hb1
  have HBW1:=hid hbw1
  obtain ⟨c0,c1,c2⟩:=hr1
  have HR1:=hid (And.intro c0 (And.intro c1 c2))
  clear hb1 hbw1
  go_wp2_with fail
  generalize hW:((w1.setCell _ (.slice none 0 0)).setCell _ (.int .i64 0)).setCell _ (.int .i64 0) = W
  obtain ⟨⟨r0,r1,r2⟩,rz,rb,ro⟩:=three HR1.out.1 HR1.out.2.1 HR1.out.2.2 _ _ _ hW.symm
  have HB':=hid (rb w.heap.size w (by omega) HBW1.out)
  have _u:=trivial
  clear hW ro rb
  refine bodyPost_ret (v:=.tuple #[.agg #[(.slice none 0 0),(.int .i64 0),(.int .i64 0)],.int .i64 1]) (by simp [results,Tryz.results103,go_sem,r0,r1,r2]) rfl ?_
  exact ⟨HB'.out,.inl ⟨rfl,rfl⟩⟩
 rcases b2 with _ | _
 ·clear C3 C4
  obtain ⟨⟨m0,m1,m2,m3⟩,⟨c0,c1,c2⟩,⟨f0,f1,f2⟩,hbw0,hz0⟩:=KB.out W0 (Below.refl _ _)
  have HBW0:=hid hbw0
  clear hbw0
  go_enter Tryz.func103,Tryz.ntmps103
  go_wp2_with fail
  refine (C1.out _ HBW0.out).mono ?_
  rintro e w1 ⟨rfl,hb1⟩
  clear m0 m1 m2 m3 c0 c1 c2 f0 f1 f2 hz0
  obtain ⟨⟨m0,m1,m2,m3⟩,hr1,⟨f0,f1,f2⟩,hbw1,hz1⟩:=KB.out w1 hb1
  have HBL1:=hid hb1
  have HBW1:=hid hbw1
  obtain ⟨c0,c1,c2⟩:=hr1
  have HR1:=hid (And.intro c0 (And.intro c1 c2))
  clear hb1 hbw1
  go_wp2_with fail
  refine (C2.out _ HBW1.out (by first | rfl | trivial)).mono ?_
  rintro e w2 ⟨rfl,hb2⟩
  clear m0 m1 m2 m3 f0 f1 f2 c0 c1 c2
  have HBL2:=hid (HBL1.out.trans (hb2.mono HBL1.out.size))
  obtain ⟨⟨m0,m1,m2,m3⟩,hr2,⟨f0,f1,f2⟩,hbw2,hz2⟩:=KB.out w2 HBL2.out
  have HBW2:=hid hbw2
  obtain ⟨c0,c1,c2⟩:=hr2
  have HR2:=hid (And.intro c0 (And.intro c1 c2))
  clear hb2 hbw2
  go_wp2_with fail
  generalize hW:((w2.setCell _ (.slice none 0 0)).setCell _ (.int .i64 0)).setCell _ (.int .i64 0) = W
  obtain ⟨⟨r0,r1,r2⟩,rz,rb,ro⟩:=three HR2.out.1 HR2.out.2.1 HR2.out.2.2 _ _ _ hW.symm
  have HB':=hid (rb w.heap.size w (by omega) HBW2.out)
  have _u:=trivial
  clear hW ro rb
  refine bodyPost_ret (v:=.tuple #[.agg #[(.slice none 0 0),(.int .i64 0),(.int .i64 0)],.int .i64 2]) (by simp [results,Tryz.results103,go_sem,r0,r1,r2]) rfl ?_
  exact ⟨HB'.out,.inr (.inl ⟨rfl,rfl,rfl⟩)⟩
 rcases b3 with _ | _
 ·clear C4
  obtain ⟨⟨m0,m1,m2,m3⟩,⟨c0,c1,c2⟩,⟨f0,f1,f2⟩,hbw0,hz0⟩:=KB.out W0 (Below.refl _ _)
  have HBW0:=hid hbw0
  clear hbw0
  go_enter Tryz.func103,Tryz.ntmps103
  go_wp2_with fail
  refine (C1.out _ HBW0.out).mono ?_
  rintro e w1 ⟨rfl,hb1⟩
  clear m0 m1 m2 m3 c0 c1 c2 f0 f1 f2 hz0
  obtain ⟨⟨m0,m1,m2,m3⟩,hr1,⟨f0,f1,f2⟩,hbw1,hz1⟩:=KB.out w1 hb1
  have HBL1:=hid hb1
  have HBW1:=hid hbw1
  obtain ⟨c0,c1,c2⟩:=hr1
  have HR1:=hid (And.intro c0 (And.intro c1 c2))
  clear hb1 hbw1
  go_wp2_with fail
  refine (C2.out _ HBW1.out (by first | rfl | trivial)).mono ?_
  rintro e w2 ⟨rfl,hb2⟩
  clear m0 m1 m2 m3 f0 f1 f2 c0 c1 c2
  have HBL2:=hid (HBL1.out.trans (hb2.mono HBL1.out.size))
  obtain ⟨⟨m0,m1,m2,m3⟩,hr2,⟨f0,f1,f2⟩,hbw2,hz2⟩:=KB.out w2 HBL2.out
  have HBW2:=hid hbw2
  obtain ⟨c0,c1,c2⟩:=hr2
  have HR2:=hid (And.intro c0 (And.intro c1 c2))
  clear hb2 hbw2
  go_wp2_with fail
  refine (C3.out _ HBW2.out (by first | rfl | trivial)).mono ?_
  rintro e w3 ⟨rfl,hb3⟩
  clear m0 m1 m2 m3 f0 f1 f2 c0 c1 c2
  have HBL3:=hid (HBL2.out.trans (hb3.mono HBL2.out.size))
  obtain ⟨⟨m0,m1,m2,m3⟩,hr3,⟨f0,f1,f2⟩,hbw3,hz3⟩:=KB.out w3 HBL3.out
  have HBW3:=hid hbw3
  obtain ⟨c0,c1,c2⟩:=hr3
  have HR3:=hid (And.intro c0 (And.intro c1 c2))
  clear hb3 hbw3
  go_wp2_with fail
  generalize hW:((w3.setCell _ (.slice none 0 0)).setCell _ (.int .i64 0)).setCell _ (.int .i64 0) = W
  obtain ⟨⟨r0,r1,r2⟩,rz,rb,ro⟩:=three HR3.out.1 HR3.out.2.1 HR3.out.2.2 _ _ _ hW.symm
  have HB':=hid (rb w.heap.size w (by omega) HBW3.out)
  have _u:=trivial
  clear hW ro rb
  refine bodyPost_ret (v:=.tuple #[.agg #[(.slice none 0 0),(.int .i64 0),(.int .i64 0)],.int .i64 2]) (by simp [results,Tryz.results103,go_sem,r0,r1,r2]) rfl ?_
  exact ⟨HB'.out,.inr (.inl ⟨rfl,rfl,rfl⟩)⟩
 ·skip
  obtain ⟨⟨m0,m1,m2,m3⟩,⟨c0,c1,c2⟩,⟨f0,f1,f2⟩,hbw0,hz0⟩:=KB.out W0 (Below.refl _ _)
  have HBW0:=hid hbw0
  clear hbw0
  go_enter Tryz.func103,Tryz.ntmps103
  go_wp2_with fail
  refine (C1.out _ HBW0.out).mono ?_
  rintro e w1 ⟨rfl,hb1⟩
  clear m0 m1 m2 m3 c0 c1 c2 f0 f1 f2 hz0
  obtain ⟨⟨m0,m1,m2,m3⟩,hr1,⟨f0,f1,f2⟩,hbw1,hz1⟩:=KB.out w1 hb1
  have HBL1:=hid hb1
  have HBW1:=hid hbw1
  obtain ⟨c0,c1,c2⟩:=hr1
  have HR1:=hid (And.intro c0 (And.intro c1 c2))
  clear hb1 hbw1
  go_wp2_with fail
  refine (C2.out _ HBW1.out (by first | rfl | trivial)).mono ?_
  rintro e w2 ⟨rfl,hb2⟩
  clear m0 m1 m2 m3 f0 f1 f2 c0 c1 c2
  have HBL2:=hid (HBL1.out.trans (hb2.mono HBL1.out.size))
  obtain ⟨⟨m0,m1,m2,m3⟩,hr2,⟨f0,f1,f2⟩,hbw2,hz2⟩:=KB.out w2 HBL2.out
  have HBW2:=hid hbw2
  obtain ⟨c0,c1,c2⟩:=hr2
  have HR2:=hid (And.intro c0 (And.intro c1 c2))
  clear hb2 hbw2
  go_wp2_with fail
  refine (C3.out _ HBW2.out (by first | rfl | trivial)).mono ?_
  rintro e w3 ⟨rfl,hb3⟩
  clear m0 m1 m2 m3 f0 f1 f2 c0 c1 c2
  have HBL3:=hid (HBL2.out.trans (hb3.mono HBL2.out.size))
  obtain ⟨⟨m0,m1,m2,m3⟩,hr3,⟨f0,f1,f2⟩,hbw3,hz3⟩:=KB.out w3 HBL3.out
  have HBW3:=hid hbw3
  obtain ⟨c0,c1,c2⟩:=hr3
  have HR3:=hid (And.intro c0 (And.intro c1 c2))
  clear hb3 hbw3
  go_wp2_with fail
  refine (C4.out _ HBW3.out (by first | rfl | trivial) (by first | rfl | trivial) (by first | rfl | trivial)).mono ?_
  rintro e w4 ⟨v4,rfl,hi4,hb4⟩
  obtain ⟨A4,c4n,rfl⟩:=hi4.form
  have HI4:=hid hi4
  clear hi4
  clear m0 m1 m2 m3 f0 f1 f2 c0 c1 c2
  have HBL4:=hid (HBL3.out.trans (hb4.mono HBL3.out.size))
  obtain ⟨⟨m0,m1,m2,m3⟩,hr4,⟨f0,f1,f2⟩,hbw4,hz4⟩:=KB.out w4 HBL4.out
  have HBW4:=hid hbw4
  obtain ⟨c0,c1,c2⟩:=hr4
  have HR4:=hid (And.intro c0 (And.intro c1 c2))
  clear hb4 hbw4
  go_wp2_with fail
  generalize hW:((w4.setCell _ (.slice A4 r.1.length c4n)).setCell _ (.int .i64 r.2.1)).setCell _ (.int .i64 r.2.2) = W
  obtain ⟨⟨r0,r1,r2⟩,rz,rb,ro⟩:=three HR4.out.1 HR4.out.2.1 HR4.out.2.2 _ _ _ hW.symm
  have HB':=hid (rb w.heap.size w (by omega) HBW4.out)
  have HI':Hid (zAh W (fun k=>w.heap.size≤k∧k < W.heap.size) r.1 (.slice A4 r.1.length c4n)):=by
   refine HI4.out.keep (fun p hp=>ro p ?_) (fun j hj=>?_)
   ·have:=hp.1;have:=hz3;omega
   ·have:=hj.1;have:=hj.2;have:=HBW3.out.size;exact ⟨by omega,by omega⟩
  clear hW ro rb
  refine bodyPost_ret (v:=.tuple #[.agg #[(.slice A4 r.1.length c4n),(.int .i64 r.2.1),(.int .i64 r.2.2)],.int .i64 0]) (by simp [results,Tryz.results103,go_sem,r0,r1,r2]) rfl ?_
  exact ⟨HB'.out,.inr (.inr ⟨rfl,rfl,rfl,_,rfl,HI'.out⟩)⟩
end Go.Proofs.YtbjcioknfjofkaaGreat
