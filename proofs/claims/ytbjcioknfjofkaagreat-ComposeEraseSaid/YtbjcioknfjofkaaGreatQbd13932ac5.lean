/- Texts put together. -/
import Derived.Test.YtbjcioknfjofkaaGreatQb55496f77f
import Derived.Test.YtbjcioknfjofkaaGreatQ0a2d1212ff
import Derived.Test.YtbjcioknfjofkaaGreatQfd81565843
import Derived.Laws.Tables
import Derived.Laws.Rows
import Derived.Deep.QuietTactic
import Derived.BigQuiet
set_option linter.unusedVariables false
set_option linter.unusedSimpArgs false
set_option maxRecDepth 100000
namespace Go.Proofs.YtbjcioknfjofkaaGreat
open Go.RowKit
def zLn:Array Value:=#[.string ⟨#[]⟩,.int .i64 0,.nilFunc,.string ⟨#[114,111,119]⟩,.int .i64 0,.func (.func 117) #[] #[],.string ⟨#[115,121,109]⟩,.int .i64 0,.func (.func 118) #[] #[],.string ⟨#[110,117,109]⟩,.int .i64 0,.func (.func 119) #[] #[],.string ⟨#[116,101,120,116]⟩,.int .i64 0,.func (.func 120) #[] #[],.string ⟨#[102,114,97,99]⟩,.int .i64 2,.func (.func 117) #[] #[],.string ⟨#[114,111,111,116]⟩,.int .i64 2,.func (.func 117) #[] #[],.string ⟨#[115,117,98]⟩,.int .i64 2,.func (.func 117) #[] #[],.string ⟨#[115,117,112]⟩,.int .i64 2,.func (.func 117) #[] #[],.string ⟨#[98,111,116,104]⟩,.int .i64 3,.func (.func 117) #[] #[],.string ⟨#[97,99,99,101,110,116]⟩,.int .i64 1,.func (.func 121) #[] #[],.string ⟨#[102,101,110,99,101]⟩,.int .i64 1,.func (.func 122) #[] #[],.string ⟨#[109,97,116,114,105,120]⟩,.int .i64 0,.func (.func 117) #[] #[]]
def chkC:Array Value:=#[.string ⟨#[]⟩,.int .i64 0,.nilFunc,.string ⟨#[114,111,119]⟩,.int .i64 0,.func (.func 117) #[] #[],.string ⟨#[115,121,109]⟩,.int .i64 0,.func (.func 118) #[] #[],.string ⟨#[110,117,109]⟩,.int .i64 0,.func (.func 119) #[] #[],.string ⟨#[116,101,120,116]⟩,.int .i64 0,.func (.func 120) #[] #[],.string ⟨#[102,114,97,99]⟩,.int .i64 2,.func (.func 117) #[] #[],.string ⟨#[114,111,111,116]⟩,.int .i64 2,.func (.func 117) #[] #[],.string ⟨#[115,117,98]⟩,.int .i64 2,.func (.func 117) #[] #[],.string ⟨#[115,117,112]⟩,.int .i64 2,.func (.func 117) #[] #[],.string ⟨#[98,111,116,104]⟩,.int .i64 3,.func (.func 117) #[] #[],.string ⟨#[97,99,99,101,110,116]⟩,.int .i64 1,.func (.func 121) #[] #[],.string ⟨#[102,101,110,99,101]⟩,.int .i64 1,.func (.func 122) #[] #[],.string ⟨#[109,97,116,114,105,120]⟩,.int .i64 0,.func (.func 117) #[] #[],.int .i64 0]
theorem zDw {P:Program} {ops:Array Oper} {rest:List Oper} {o:Oper} {a:Act} {w:World} {Q:Exit→Act→World→Prop} (hg:o.guard = none) (t:TypeId) (parts:Array (Nat × Operand)) (ho:o.op = .build t parts)
  (cells:Array Value) (hf:P.built t (parts.map fun (i,x)=>(i,a.eval x)).toList = some cells)
  (h:wpList P ops Q rest (a.put o.dst (.agg cells)) w):wpList P ops Q (o :: rest) a w :=
 wpList_build hg t parts ho (by rw [hf];rfl) (by rw [hf];exact h)
theorem zQt (w:World) (old cs:Array Value) (t:TypeId):Below w.heap.size w ((w.alloc (.cells old t)).setRow w.heap.size cs) :=
 ⟨rfl,rfl,rfl,by simp,fun k hk=>by rw [setRow_other _ _ _ _ (by omega)];exact heap_alloc_old _ _ hk⟩
set_option maxHeartbeats 1000000 in
theorem zLm (w:World):Calls Tryz.prog 84 #[] w fun e w'=>e = .returned (.agg zLn)∧Below w.heap.size w w':=by
 go_enter Tryz.func84,Tryz.ntmps84
 go_wp2_with (first
  | (refine zDw rfl 117 _ rfl zLn (by kernel_rfl) ?_)
  | (refine wpList_store_row rfl 117 (.tmp 0) (.tmp 13) rfl w.heap.size zLn rfl rfl 117 _ (heap_alloc_new w _) (by kernel_rfl) (by kernel_rfl) (by kernel_rfl) ?_))
 exact bodyPost_ret (v:=.agg zLn) (results_cell_row Tryz.results84 _ _ w.heap.size 117 zLn (0,0) _ rfl (setRow_heap _ _ _ _ _ _ (heap_alloc_new w _)) Tryz.underlying117 rfl (by kernel_rfl)) rfl ⟨rfl,zQt w _ _ _⟩
theorem chk_new (w:World) (e:TypeId):Chk (w.alloc (.cells chkC e)) w.heap.size 0:=by
 unfold Chk Cells
 simp only [World.cell?_alloc_new]
 refine ⟨?_,by kernel_rfl,World.frozen?_alloc_new _ _ _ _⟩
 refine ⟨⟨by kernel_rfl,by kernel_rfl⟩,⟨by kernel_rfl,by kernel_rfl⟩,⟨by kernel_rfl,by kernel_rfl⟩,⟨by kernel_rfl,by kernel_rfl⟩,⟨by kernel_rfl,by kernel_rfl⟩,⟨by kernel_rfl,by kernel_rfl⟩,⟨by kernel_rfl,by kernel_rfl⟩,⟨by kernel_rfl,by kernel_rfl⟩,⟨by kernel_rfl,by kernel_rfl⟩,⟨by kernel_rfl,by kernel_rfl⟩,⟨by kernel_rfl,by kernel_rfl⟩,⟨by kernel_rfl,by kernel_rfl⟩⟩
theorem zPe (t:Tree):zAf t = ((t.kind == 1) && okS t 0 1):=by
 unfold zAf
 rw [zP7,Bool.eq_iff_iff]
 simp only [Bool.and_eq_true,decide_eq_true_eq]
 constructor
 ·rintro ⟨⟨⟨a,b⟩,c⟩,d⟩;exact ⟨a,b,by omega,by omega⟩
 ·rintro ⟨a,b,c,d⟩;exact ⟨⟨⟨a,b⟩,by omega⟩,by omega⟩
set_option maxHeartbeats 1000000 in
theorem zCc (t:Tree) (A:Option Addr) (cap:Nat) (w:World) (hv:zAa zAb w (Lt w.heap.size) t.kids (.slice A t.kids.length cap)) (htx:t.text.size≤maxLen) :
  Calls Tryz.prog 49 #[.agg #[.int .i64 t.kind,.string t.text,.int .i64 t.cols,.slice A t.kids.length cap]] w fun e w'=>e = .returned (.bool (zAf t))∧Below w.heap.size w w':=by
 have HV:=hid (zPe t)
 have HCH:Hid (∀ W,Below (w.alloc (Obj.cells #[.int .i64 t.kind,.string t.text,.int .i64 t.cols,.slice A t.kids.length cap] 24)).heap.size (w.alloc (Obj.cells #[.int .i64 t.kind,.string t.text,.int .i64 t.cols,.slice A t.kids.length cap] 24)) W →
   Calls Tryz.prog 85 #[.pointer (some ⟨W.heap.size,0,none⟩),.pointer (some ⟨w.heap.size,0,none⟩),.int .i64 1] (W.alloc (.cells chkC 120)) fun e w'=>e = .returned (.bool (okS t 0 1))∧Below w.heap.size w w'):=by
  intro W hW
  have hb0:Below w.heap.size w (w.alloc (Obj.cells #[.int .i64 t.kind,.string t.text,.int .i64 t.cols,.slice A t.kids.length cap] 24)):=(Below.refl _ _).alloc (Nat.le_refl _) _
  have hbW:Below w.heap.size w W:=hb0.trans (hW.mono hb0.size)
  have hz:w.heap.size < W.heap.size:=by have:=hW.size;simp at this;omega
  have hbA:Below W.heap.size W (W.alloc (.cells chkC 120)):=(Below.refl _ _).alloc (Nat.le_refl _) _
  obtain ⟨_,_,rs,hq,h1,h2,h3,h4⟩:=hv.below hbW hbW.size
  cases hq
  have hn:zEu W (Lt W.heap.size) w.heap.size 0 t A cap rs:=by
   obtain ⟨n0,n1,n2,n3⟩:=(NBox.new w t.kind t.cols t.text (.slice A t.kids.length cap)).below hW (by simp)
   exact ⟨⟨n0,n1,n2,n3⟩,hz,htx,h1,h2,h3,h4⟩
  refine (chk_any t _ W.heap.size w.heap.size 0 A cap rs 0 1 (hn.below hbA) (chk_new W _) (by omega) (by omega)).mono ?_
  rintro e w' ⟨he,hb,_⟩
  exact ⟨he,hbW.trans ((hbA.trans hb).mono hbW.size)⟩
 have HB0:Hid (Below w.heap.size w (w.alloc (Obj.cells #[.int .i64 t.kind,.string t.text,.int .i64 t.cols,.slice A t.kids.length cap] 24))):=(Below.refl _ _).alloc (Nat.le_refl _) _
 have KB:Hid (∀ W,Below (w.alloc (Obj.cells #[.int .i64 t.kind,.string t.text,.int .i64 t.cols,.slice A t.kids.length cap] 24)).heap.size (w.alloc (Obj.cells #[.int .i64 t.kind,.string t.text,.int .i64 t.cols,.slice A t.kids.length cap] 24)) W→W.cell? ⟨w.heap.size,0,none⟩ = some (.int .i64 t.kind)∧w.heap.size < W.heap.size) :=
  fun W hW=>⟨((NBox.new w t.kind t.cols t.text (.slice A t.kids.length cap)).below hW (by simp)).1,by have:=hW.size;simp at this;omega⟩
 rw [HV.out]
 clear hv htx HV
 generalize okS t 0 1 = b at *
 obtain ⟨tk,tx,tc,ts⟩:=t
 simp only [Tree.kind,Tree.text,Tree.cols,Tree.kids] at *
 cases h1:(tk == 1)
 ·go_enter Tryz.func49,Tryz.ntmps49
  go_wp2_with fail
  refine (zLm _).mono ?_
  rintro e w1 ⟨rfl,hb1⟩
  have HB1:=hid (HB0.out.trans (hb1.mono HB0.out.size))
  obtain ⟨q0,z0⟩:=KB.out w1 hb1
  clear hb1
  go_wp2_with (refine zDw rfl 120 _ rfl chkC (by kernel_rfl) ?_)
  go_ret
  exact ⟨rfl,HB1.out.trans ((Below.refl _ _).alloc HB1.out.size _)⟩
 ·go_enter Tryz.func49,Tryz.ntmps49
  go_wp2_with fail
  refine (zLm _).mono ?_
  rintro e w1 ⟨rfl,hb1⟩
  have HCC:=hid (HCH.out w1 hb1)
  obtain ⟨q0,z0⟩:=KB.out w1 hb1
  clear hb1
  go_wp2_with (first | (refine zDw rfl 120 _ rfl chkC (by kernel_rfl) ?_) | (go_at_call 85;refine HCC.out.mono ?_;rintro e w2 ⟨rfl,hb2⟩;have HB2:=hid hb2;clear hb2))
  go_ret
  exact ⟨rfl,HB2.out⟩
theorem zBw {B:Nat} {a w:World} (h:Below B a w) (n:Nat):Below B a (w.drewN n):=⟨h.os,h.tape,h.output,h.size,h.block⟩
theorem zP2 (t:Tree) (i k:Int):zAs t [i,k] = false:=by
 unfold zAs
 split
 ·split
  ·simp [zAs]
  ·rfl
 ·rfl
set_option maxHeartbeats 2000000 in
theorem in_any (t : Tree) (p : List Int) (A : Option Addr) (cap : Nat) (b : Value) (w : World) (hv : zAa zAb w (Lt w.heap.size) t.kids (.slice A t.kids.length cap)) (htx : t.text.size ≤ maxLen) (hp : zAh w (Lt w.heap.size) p b) :
    Calls Tryz.prog 155 #[.agg #[.int .i64 t.kind, .string t.text, .int .i64 t.cols, .slice A t.kids.length cap], b] w fun e w' => e = .returned (.bool (zAs t p)) ∧ Below w.heap.size w w' := by
  have hb0 : Below w.heap.size w (w.alloc (Obj.cells #[.int .i64 t.kind, .string t.text, .int .i64 t.cols, .slice A t.kids.length cap] 24)) := (Below.refl _ _).alloc (Nat.le_refl _) _
  have hv1 := hv.below hb0 hb0.size
  have HN : Hid (∃ rs, zEu (w.alloc (Obj.cells #[.int .i64 t.kind, .string t.text, .int .i64 t.cols, .slice A t.kids.length cap] 24)) (Lt (w.alloc (Obj.cells #[.int .i64 t.kind, .string t.text, .int .i64 t.cols, .slice A t.kids.length cap] 24)).heap.size) w.heap.size 0 t A cap rs) := by
    obtain ⟨_, _, rs, hq, h1, h2, h3, h4⟩ := hv1
    cases hq
    exact ⟨rs, NBox.new w t.kind t.cols t.text (.slice A t.kids.length cap), by unfold Lt; simp, htx, h1, h2, h3, h4⟩
  have HP := hid (hp.below hb0 hb0.size)
  have HB0 := hid hb0
  obtain ⟨tk, tx, tc, ts⟩ := t
  simp only [Tree.kind, Tree.text, Tree.cols, Tree.kids] at *
  obtain ⟨A', cap', rfl⟩ := hp.form
  clear hv htx hp hb0 hv1
  go_enter Tryz.func155, Tryz.ntmps155
  go_wp2_with fail
  generalize hW0 : w.alloc (Obj.cells #[.int .i64 tk, .string tx, .int .i64 tc, .slice A ts.length cap] 24) = W0 at *
  have z0 : w.heap.size < W0.heap.size := by rw [← hW0]; simp
  clear hW0
  go_loopw [1, 5] (fun c r wr => (∃ n, wr = W0.drewN n) ∧ ∃ (p' : List Int) (t' : Tree) (g o : Nat) (A1 : Option Addr) (cap1 : Nat) (rs : List Value), r = .pointer (some ⟨g, o, none⟩) ∧ zAh W0 (Lt W0.heap.size) p' c ∧ zEu W0 (Lt W0.heap.size) g o t' A1 cap1 rs ∧ zAs t' p' = zAs (.mk tk tx tc ts) p)
    (fun c _ _ => match c with | .slice _ n _ => n | _ => 0)
  case atStart =>
    obtain ⟨rs, hN⟩ := HN.out
    exact ⟨⟨0, rfl⟩, p, .mk tk tx tc ts, w.heap.size, 0, A, cap, rs, rfl, HP.out, hN, rfl⟩
  case round =>
    obtain ⟨⟨n, rfl⟩, p', t', g, o, A1, cap1, rs, rfl, hp', hn, hrest⟩ := hrel
    have HR := hid hrest
    have HP' := hid hp'
    obtain ⟨⟨c0, c1, c2, c3⟩, hg, htx, h4, h5, h6, h7⟩ := hn
    obtain ⟨A2, cap2, ws, rfl, h8, h9, h10, h11⟩ := hp'
    have hl1 : p'.length ≤ 9223372036854775807 := by unfold maxLen at h9; omega
    have hl2 : t'.kids.length ≤ 9223372036854775807 := by unfold maxLen at h5; omega
    have hgl : g < W0.heap.size := hg
    clear hrest HN HP
    match p', hl1, HR, HP', h8, h10, h11 with
    | [], hl1, HR, HP', h8, h10, h11 =>
      have HF : Hid (zAs (.mk tk tx tc ts) p = false) := by show _ = _; rw [← HR.out]; simp [zAs]
      clear h10 h11 h6 h7
      go_wp2_with fail
      go_quiet (fail)
      go_wp2_with fail
      go_ret
      exact ⟨by rw [HF.out]; rfl, by first | exact zBw HB0.out _ | (simp only [World.drewN_drewN]; exact zBw HB0.out _)⟩
    | [i], hl1, HR, HP', h8, h10, h11 =>
      obtain ⟨g', o', rfl, hg', hi, a0⟩ := zB2 h10 h11 (k := 0) (by simp)
      simp only [List.getElem_cons_zero, Nat.add_zero] at a0 hi
      have HF : Hid (zAs (.mk tk tx tc ts) p = decide (0 ≤ i ∧ i ≤ t'.kids.length)) := by show _ = _; rw [← HR.out]; simp [zAs]
      clear h10 h11 h6 h7
      simp only [List.length_cons, List.length_nil, Nat.zero_add]
      by_cases k0 : 0 ≤ i
      · have d0 : decide (0 ≤ i) = true := decide_eq_true k0
        by_cases k1 : i ≤ (t'.kids.length : Int)
        · have d1 : decide (i ≤ (t'.kids.length : Int)) = true := decide_eq_true k1
          rw [decide_eq_true (show 0 ≤ i ∧ i ≤ (t'.kids.length : Int) from ⟨k0, k1⟩)] at HF
          go_wp2_with fail
          go_quiet (fail)
          go_wp2_with fail
          go_ret
          exact ⟨by rw [HF.out]; first | rfl | (simp; omega), by first | exact zBw HB0.out _ | (simp only [World.drewN_drewN]; exact zBw HB0.out _)⟩
        · have d1 : decide (i ≤ (t'.kids.length : Int)) = false := decide_eq_false k1
          rw [decide_eq_false (show ¬ (0 ≤ i ∧ i ≤ (t'.kids.length : Int)) from fun h => k1 h.2)] at HF
          go_wp2_with fail
          go_quiet (fail)
          go_wp2_with fail
          go_ret
          exact ⟨by rw [HF.out]; first | rfl | (simp; omega), by first | exact zBw HB0.out _ | (simp only [World.drewN_drewN]; exact zBw HB0.out _)⟩
      · have d0 : decide (0 ≤ i) = false := decide_eq_false k0
        rw [decide_eq_false (show ¬ (0 ≤ i ∧ i ≤ (t'.kids.length : Int)) from fun h => k0 h.1)] at HF
        go_wp2_with fail
        go_quiet (fail)
        go_wp2_with fail
        go_ret
        exact ⟨by rw [HF.out]; first | rfl | (simp; omega), by first | exact zBw HB0.out _ | (simp only [World.drewN_drewN]; exact zBw HB0.out _)⟩
    | [i, k], hl1, HR, HP', h8, h10, h11 =>
      have HF : Hid (zAs (.mk tk tx tc ts) p = false) := by show _ = _; rw [← HR.out, zP2]
      clear h10 h11 h6 h7
      simp only [List.length_cons, List.length_nil, Nat.zero_add]
      go_wp2_with fail
      go_quiet (fail)
      go_wp2_with fail
      go_ret
      exact ⟨by rw [HF.out]; rfl, by first | exact zBw HB0.out _ | (simp only [World.drewN_drewN]; exact zBw HB0.out _)⟩
    | i :: k :: x :: q, hl1, HR, HP', h8, h10, h11 =>
      obtain ⟨g', o', rfl, hg', hi, a0⟩ := zB2 h10 h11 (k := 0) (by simp)
      obtain ⟨g2, o2, hq, hg2, hk, a1⟩ := zB2 h10 h11 (k := 1) (by simp)
      cases hq
      simp only [List.getElem_cons_zero, List.getElem_cons_succ, Nat.add_zero] at a0 a1 hi hk
      obtain ⟨A3, hsl, hcut⟩ := zNc intE Tryz.underlying31 zCm (some ⟨g', o', none⟩) (i :: k :: x :: q).length cap2 2 2 rfl (by simp)
      have HCU := hid (hcut _ _ _ HP'.out)
      simp only [List.drop_succ_cons, List.drop_zero] at HCU
      have i3 : (3 : Int) ≤ ((i :: k :: x :: q).length : Int) := by simp; omega
      have hlen2 : (i :: k :: x :: q).length - 2 = (x :: q).length := by simp
      have hpq : Hid ((x :: q).length < (i :: k :: x :: q).length) := by show _ < _; simp
      rw [hlen2] at hsl HCU
      have m0 : (0 : Int) < ((i :: k :: x :: q).length : Int) := by simp; omega
      have m2 : 0 < (i :: k :: x :: q).length := by simp
      have m1 : 1 < (i :: k :: x :: q).length := by simp
      have m3 : (1 : Int) < ((i :: k :: x :: q).length : Int) := by simp; omega
      clear hcut hlen2 h10 h11
      generalize (i :: k :: x :: q).length = m at *
      have HX : Hid (zAs (.mk tk tx tc ts) p = zAs t' (i :: k :: x :: q)) := HR.out.symm
      have HPS := hid (show zAs t' (i :: k :: x :: q) = _ by rw [zAs])
      clear HR
      by_cases hx : 0 ≤ i ∧ i.toNat < t'.kids.length
      · obtain ⟨hx1, hx2⟩ := hx
        obtain ⟨i', rfl⟩ : ∃ i' : Nat, i = i' := ⟨i.toNat, by omega⟩
        simp only [Int.toNat_natCast] at hx2
        obtain ⟨gk, ok, B1, b1, bs1, rfl, hg1, t0, t1, t2, t3, _, _, hts, hc5, hc6, hrd, hls⟩ := zAy h6 h7 hx2
        have j0 : decide ((i' : Int) < 0) = false := by simp
        have j1 : ¬ (i' : Int) < 0 := by omega
        have j2 : decide ((t'.kids.length : Int) ≤ i') = false := by simp; omega
        have j3 : (i' : Int) < (t'.kids.length : Int) := by omega
        have hg1l : gk < W0.heap.size := hg1
        have hl3 : t'.kids[i'].kids.length ≤ 9223372036854775807 := by unfold maxLen at hc6; omega
        by_cases hy : 0 ≤ k ∧ k.toNat < t'.kids[i'].kids.length
        · obtain ⟨hy1, hy2⟩ := hy
          obtain ⟨k', rfl⟩ : ∃ k' : Nat, k = k' := ⟨k.toNat, by omega⟩
          simp only [Int.toNat_natCast] at hy2
          obtain ⟨gl, ol, B2, b2, bs2, rfl, hg2', s0, s1, s2, s3, _, _, hts2, hd5, hd6, hrd2, hls2⟩ := zAy hrd hls hy2
          have j4 : decide ((k' : Int) < 0) = false := by simp
          have j5 : ¬ (k' : Int) < 0 := by omega
          have j6 : decide ((t'.kids[i'].kids.length : Int) ≤ k') = false := by simp; omega
          have j7 : (k' : Int) < (t'.kids[i'].kids.length : Int) := by omega
          have HF : Hid (zAs t'.kids[i'].kids[k'] (x :: q) = zAs (.mk tk tx tc ts) p) := by
            show _ = _
            rw [HX.out, zAs, dif_pos ⟨by omega, by simpa using hx2⟩, dif_pos ⟨by omega, by simpa using hy2⟩]; rfl
          have HN2 : Hid (zEu W0 (Lt W0.heap.size) gl (ol + k' * 4) t'.kids[i'].kids[k'] B2 b2 bs2) := ⟨⟨s0, s1, s2, s3⟩, hg2', hts2, hd5, hd6, hrd2, hls2⟩
          clear hrd hls hrd2 hls2 h6 h7 HX HPS hd5 hd6 hc5 hc6
          go_wp2_with fail
          go_quiet (fail)
          go_wp2_with fail
          go_roundw
          case rel => exact ⟨by first | exact ⟨_, rfl⟩ | (simp only [World.drewN_drewN]; exact ⟨_, rfl⟩), x :: q, _, _, _, _, _, _, rfl, HCU.out, HN2.out, HF.out⟩
          case measure => exact hpq.out
        · have HF : Hid (zAs (.mk tk tx tc ts) p = false) := by
            show _ = _
            rw [HX.out, zAs, dif_pos ⟨by omega, by simpa using hx2⟩, dif_neg (by simpa using hy)]
          have i2 : k < 0 ∨ (0 ≤ k ∧ (t'.kids[i'].kids.length : Int) ≤ k) := by omega
          clear hrd hls h6 h7 HX HPS hc5 hc6 hy
          rcases i2 with i2 | ⟨i2, i3⟩
          · have j4 : decide (k < 0) = true := decide_eq_true i2
            go_wp2_with fail
            go_quiet (fail)
            go_wp2_with fail
            go_ret
            exact ⟨by rw [HF.out]; rfl, by first | exact zBw HB0.out _ | (simp only [World.drewN_drewN]; exact zBw HB0.out _)⟩
          · have j4 : decide (k < 0) = false := by simp; omega
            have j5 : decide ((t'.kids[i'].kids.length : Int) ≤ k) = true := decide_eq_true i3
            go_wp2_with fail
            go_quiet (fail)
            go_wp2_with fail
            go_ret
            exact ⟨by rw [HF.out]; rfl, by first | exact zBw HB0.out _ | (simp only [World.drewN_drewN]; exact zBw HB0.out _)⟩
      · have HF : Hid (zAs (.mk tk tx tc ts) p = false) := by show _ = _; rw [HX.out, zAs, dif_neg hx]
        have i2 : i < 0 ∨ (0 ≤ i ∧ (t'.kids.length : Int) ≤ i) := by omega
        clear h6 h7 HX HPS hx
        rcases i2 with i2 | ⟨i2, i3⟩
        · have j4 : decide (i < 0) = true := decide_eq_true i2
          go_wp2_with fail
          go_quiet (fail)
          go_wp2_with fail
          go_ret
          exact ⟨by rw [HF.out]; rfl, by first | exact zBw HB0.out _ | (simp only [World.drewN_drewN]; exact zBw HB0.out _)⟩
        · have j4 : decide (i < 0) = false := by simp; omega
          have j5 : decide ((t'.kids.length : Int) ≤ i) = true := decide_eq_true i3
          go_wp2_with fail
          go_quiet (fail)
          go_wp2_with fail
          go_ret
          exact ⟨by rw [HF.out]; rfl, by first | exact zBw HB0.out _ | (simp only [World.drewN_drewN]; exact zBw HB0.out _)⟩
end Go.Proofs.YtbjcioknfjofkaaGreat
