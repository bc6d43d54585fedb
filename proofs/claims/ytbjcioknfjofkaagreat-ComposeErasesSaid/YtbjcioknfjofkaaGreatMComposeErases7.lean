/- Texts put together. -/
import Derived.Test.YtbjcioknfjofkaaGreatMComposeErases1
import Derived.Test.YtbjcioknfjofkaaGreatMComposeErases2
import Derived.Test.YtbjcioknfjofkaaGreatMComposeErases5
import Derived.Test.YtbjcioknfjofkaaGreatMComposeErases6
import Derived.Deep.RegionHeld3
import Derived.Deep.DeepCutAuto
import Derived.Deep.QuietTactic
import Derived.BigQuiet
set_option linter.unusedVariables false
set_option linter.unusedSimpArgs false
set_option maxRecDepth 100000
namespace Go.Proofs.YtbjcioknfjofkaaGreat
open Go.RowKit
theorem blA (w : World) (o : Obj) : Below w.heap.size w (w.alloc o) := (Below.refl _ _).alloc (Nat.le_refl _) _
theorem blAlloc {W X : World} (h : Below W.heap.size W X) (o : Obj) : Below W.heap.size W (X.alloc o) := h.alloc h.size o
theorem blCall {W X Y : World} (h : Below W.heap.size W X) (hb : Below X.heap.size X Y) : Below W.heap.size W Y := h.trans (hb.mono h.size)
theorem newC (W : World) (arr : Array Value) (T : TypeId) (b o : Nat) (hb : b = W.heap.size) : (W.alloc (.cells arr T)).cell? ⟨b, o, none⟩ = arr[o]? := by subst hb; exact World.cell?_alloc_new _ _ _ _
theorem newF (W : World) (arr : Array Value) (T : TypeId) (b o : Nat) (hb : b = W.heap.size) : (W.alloc (.cells arr T)).frozen? ⟨b, o, none⟩ = false := by subst hb; exact World.frozen?_alloc_new _ _ _ _
theorem oldC (W : World) (B : Obj) (b o : Nat) (x : Option Value) (hb : b < W.heap.size) (h : W.cell? ⟨b, o, none⟩ = x) : (W.alloc B).cell? ⟨b, o, none⟩ = x := ((blA W B).cell (p := ⟨b, o, none⟩) hb).trans h
theorem oldF (W : World) (B : Obj) (b o : Nat) (hb : b < W.heap.size) (h : W.frozen? ⟨b, o, none⟩ = false) : (W.alloc B).frozen? ⟨b, o, none⟩ = false := ((blA W B).frozen (p := ⟨b, o, none⟩) hb).trans h
theorem cellLt {w : World} {a : Addr} {v : Value} (h : w.cell? a = some v) : a.block < w.heap.size := by
  rcases Nat.lt_or_ge a.block w.heap.size with h1 | h1
  · exact h1
  · simp [World.cell?, Array.getElem?_eq_none h1] at h
def TreeP (S : Nat → Prop) (w : World) (t : Tree) (e : Ending) (w' : World) : Prop :=
  ∃ v, e = .returned (.agg #[.int .i64 t.kind, .string t.text, .int .i64 t.cols, v]) ∧ SliceR treeE w' (fun q => S q ∨ w.heap.size ≤ q ∧ q < w'.heap.size) t.kids v ∧ Below w.heap.size w w'
def replS (t : Tree) (i : Nat) (k : Tree) : Tree := .mk t.kind t.text t.cols (t.kids.set i k)
def Box4 (W : World) (b : Nat) (k : Int) (s : ByteArray) (c : Int) (v : Value) : Prop :=
  W.cell? ⟨b, 0, none⟩ = some (.int .i64 k) ∧ W.cell? ⟨b, 1, none⟩ = some (.string s) ∧ W.cell? ⟨b, 2, none⟩ = some (.int .i64 c) ∧ W.cell? ⟨b, 3, none⟩ = some v
theorem Box4.keep {W W' : World} {b : Nat} {k : Int} {s : ByteArray} {c : Int} {v : Value} (h : Box4 W b k s c v) (hk : ∀ o, W'.cell? ⟨b, o, none⟩ = W.cell? ⟨b, o, none⟩) : Box4 W' b k s c v :=
  ⟨(hk 0).trans h.1, (hk 1).trans h.2.1, (hk 2).trans h.2.2.1, (hk 3).trans h.2.2.2⟩
theorem Box4.below {W W' : World} {B b : Nat} {k : Int} {s : ByteArray} {c : Int} {v : Value} (h : Box4 W b k s c v) (hb : Below B W W') (hB : b < B) : Box4 W' b k s c v := h.keep fun o => hb.cell (p := ⟨b, o, none⟩) hB
theorem Box4.new (w : World) (k : Int) (s : ByteArray) (c : Int) (v : Value) (T : TypeId) : Box4 (w.alloc (Obj.cells #[.int .i64 k, .string s, .int .i64 c, v] T)) w.heap.size k s c v := by
  refine ⟨?_, ?_, ?_, ?_⟩ <;> rw [World.cell?_alloc_new] <;> rfl
def Free4 (W : World) (b : Nat) : Prop := W.frozen? ⟨b, 0, none⟩ = false ∧ W.frozen? ⟨b, 1, none⟩ = false ∧ W.frozen? ⟨b, 2, none⟩ = false ∧ W.frozen? ⟨b, 3, none⟩ = false
theorem Free4.new (w : World) (arr : Array Value) (T : TypeId) : Free4 (w.alloc (Obj.cells arr T)) w.heap.size :=
  ⟨newF _ _ _ _ _ rfl, newF _ _ _ _ _ rfl, newF _ _ _ _ _ rfl, newF _ _ _ _ _ rfl⟩
theorem Free4.below {W W' : World} {B b : Nat} (h : Free4 W b) (hb : Below B W W') (hB : b < B) : Free4 W' b :=
  ⟨(hb.frozen (p := ⟨b, 0, none⟩) hB).trans h.1, (hb.frozen (p := ⟨b, 1, none⟩) hB).trans h.2.1, (hb.frozen (p := ⟨b, 2, none⟩) hB).trans h.2.2.1, (hb.frozen (p := ⟨b, 3, none⟩) hB).trans h.2.2.2⟩
set_option maxHeartbeats 4000000 in
theorem replaced_any (t k : Tree) (i : Nat) (A B : Option Addr) (cap cb : Nat) (w : World) (S : Nat → Prop) (hS : ∀ q, S q → q < w.heap.size) (hi : i < t.kids.length) (hlen : t.kids.length ≤ 1000000) (hk : NodeOk k) (hv : SliceR treeE w S t.kids (.slice A t.kids.length cap)) (hkv : SliceR treeE w S k.kids (.slice B k.kids.length cb)) :
    Calls Tryz.prog 116 #[.agg #[.int .i64 t.kind, .string t.text, .int .i64 t.cols, .slice A t.kids.length cap], .int .i64 i, .agg #[.int .i64 k.kind, .string k.text, .int .i64 k.cols, .slice B k.kids.length cb]] w (TreeP S w (replS t i k)) := by
  obtain ⟨tk, tx, tc, ts⟩ := t
  have HK : Hid (NodeOk k) := hk
  clear hk
  obtain ⟨kk, kx, kc, ks⟩ := k
  simp only [Tree.kind, Tree.text, Tree.cols, Tree.kids, replS] at *
  have HV := hid hv
  have HKV := hid hkv
  have HI := hid hi
  generalize hW0 : ((w.alloc (Obj.cells #[.int .i64 tk, .string tx, .int .i64 tc, .slice A ts.length cap] 24)).alloc (Obj.cells #[.int .i64 kk, .string kx, .int .i64 kc, .slice B ks.length cb] 24)).alloc (Obj.cells #[.int .i64 0, .string ⟨#[]⟩, .int .i64 0, .slice none 0 0] 24) = W0
  have hz0 : W0.heap.size = w.heap.size + 1 + 1 + 1 := by rw [← hW0]; simp
  have hB0 : Below w.heap.size w W0 := by rw [← hW0]; exact blAlloc (blAlloc (blA _ _) _) _
  have hbT : Box4 W0 w.heap.size tk tx tc (.slice A ts.length cap) := by
    rw [← hW0]
    exact ((Box4.new w _ _ _ _ _).below (blA _ _) (by simp)).below (blA _ _) (by simp; omega)
  have hbK : Box4 W0 (w.heap.size + 1) kk kx kc (.slice B ks.length cb) := by
    rw [← hW0]
    have h := (Box4.new (w.alloc (Obj.cells #[.int .i64 tk, .string tx, .int .i64 tc, .slice A ts.length cap] 24)) kk kx kc (.slice B ks.length cb) 24).below (blA _ (Obj.cells #[.int .i64 0, .string ⟨#[]⟩, .int .i64 0, .slice none 0 0] 24)) (by simp)
    simpa using h
  have hbR : Box4 W0 (w.heap.size + 1 + 1) 0 ⟨#[]⟩ 0 (.slice none 0 0) ∧ Free4 W0 (w.heap.size + 1 + 1) := by
    rw [← hW0]
    have h := Box4.new ((w.alloc (Obj.cells #[.int .i64 tk, .string tx, .int .i64 tc, .slice A ts.length cap] 24)).alloc (Obj.cells #[.int .i64 kk, .string kx, .int .i64 kc, .slice B ks.length cb] 24)) 0 ⟨#[]⟩ 0 (.slice none 0 0) 24
    have h2 := Free4.new ((w.alloc (Obj.cells #[.int .i64 tk, .string tx, .int .i64 tc, .slice A ts.length cap] 24)).alloc (Obj.cells #[.int .i64 kk, .string kx, .int .i64 kc, .slice B ks.length cb] 24)) #[.int .i64 0, .string ⟨#[]⟩, .int .i64 0, .slice none 0 0] 24
    exact ⟨by simpa using h, by simpa using h2⟩
  have hfT : Free4 W0 w.heap.size := by
    rw [← hW0]
    exact ((Free4.new w _ _).below (blA _ _) (by simp)).below (blA _ _) (by simp; omega)
  have HB0 := hid hB0
  have HBT := hid hbT
  have HBK := hid hbK
  have HBR := hid hbR
  have HFT := hid hfT
  have HZ0 := hid hz0
  have m3 := oldC W0 (.cells #[] 24) _ _ _ (by omega) hbT.2.2.2
  have f3 := oldF W0 (.cells #[] 24) _ _ (by omega) hfT.2.2.2
  have HOE := hid (OwnT.empty W0 S)
  have HSS := hid hS
  have HSRC := hid (hv.keep (w' := W0.alloc (.cells #[] 24)) (fun q hq => (blAlloc hB0 _).cell (hS _ hq)) (fun _ h => h))
  have HT0 : Hid (w.heap.size < W0.heap.size) := by show _ < _; omega
  have HPOS : Hid (0 < ts.length) := by show _ < _; omega
  have HLE : Hid (w.heap.size ≤ W0.heap.size) := by show _ ≤ _; omega
  clear hS hv hkv hB0 hbT hbK hbR hfT hi hz0
  go_enter Tryz.func116, Tryz.ntmps116
  go_upto_region 2 with first
    | (refine appT rfl (.tmp 7) (.tmp 9) rfl W0.heap.size S (fun q hq => Nat.lt_of_lt_of_le (HSS.out q hq) HLE.out) _ [] ts rfl HOE.out A ts.length cap rfl HSRC.out (by simp; omega) (by simp) ?_
       intro v1 W1 ho1 hb1
       rw [List.nil_append] at ho1
       have HB1 := hid ((blA W0 (.cells #[] 24)).trans (hb1.mono (Nat.le_refl _)))
       obtain ⟨g, n1, rfl, hg1, hg2, hcells⟩ := ho1.some_ HPOS.out
       have HO1 := hid ho1
       have HG1 := hid hg1
       have HG2 := hid hg2
       have HCL := hid hcells
       have q3 := (HBT.out.below HB1.out HT0.out).2.2.2
       have g3 := (HFT.out.below HB1.out HT0.out).2.2.2
       clear ho1 hb1 hg1 hg2 hcells m3 f3)
  have ht0 := HT0.out
  obtain ⟨X, hX⟩ : ∃ X, W1.setCell ⟨w.heap.size, 3, none⟩ (.slice (some ⟨g, 0, none⟩) ts.length n1) = X := ⟨_, rfl⟩
  rw [hX]
  have hXs : X.heap.size = W1.heap.size := by rw [← hX]; simp [World.setCell]
  have hXo : ∀ p : Addr, p.block ≠ w.heap.size → X.cell? p = W1.cell? p := fun p hp => by rw [← hX]; exact World.cell?_setCell_other _ _ _ _ (fun e => hp (by rw [← e]))
  have hXf : ∀ p : Addr, X.frozen? p = W1.frozen? p := fun p => by rw [← hX]; exact World.frozen?_setCell _ _ _ _
  have hXB : Below w.heap.size w X := by rw [← hX]; exact (HB0.out.trans (HB1.out.mono HLE.out)).setCell (Nat.le_refl _) _
  have x3 : X.cell? ⟨w.heap.size, 3, none⟩ = some (.slice (some ⟨g, 0, none⟩) ts.length n1) := by rw [← hX]; exact World.cell?_setCell_same _ _ _ q3
  have ⟨y0, y1, y2, _⟩ := HBT.out.below HB1.out HT0.out
  have x0 : X.cell? ⟨w.heap.size, 0, none⟩ = some (.int .i64 tk) := by rw [← hX]; exact (World.cell?_setCell_other _ _ _ _ (by simp)).trans y0
  have x1 : X.cell? ⟨w.heap.size, 1, none⟩ = some (.string tx) := by rw [← hX]; exact (World.cell?_setCell_other _ _ _ _ (by simp)).trans y1
  have x2 : X.cell? ⟨w.heap.size, 2, none⟩ = some (.int .i64 tc) := by rw [← hX]; exact (World.cell?_setCell_other _ _ _ _ (by simp)).trans y2
  have hgz := HZ0.out
  have hg1 := HG1.out
  have hg2 := HG2.out
  obtain ⟨k0, k1, k2, k3⟩ := (HBK.out.below HB1.out (by omega)).keep (fun o => hXo ⟨w.heap.size + 1, o, none⟩ (by simp))
  have HRX : Hid (Box4 X (w.heap.size + 1 + 1) 0 ⟨#[]⟩ 0 (.slice none 0 0)) := (HBR.out.1.below HB1.out (by omega)).keep (fun o => hXo ⟨w.heap.size + 1 + 1, o, none⟩ (by simp; omega))
  have hfr := HBR.out.2.below HB1.out (by omega)
  have hcx : ∀ j, j < 4 → (∃ u, X.cell? ⟨g, i * 4 + j, none⟩ = some u) ∧ X.frozen? ⟨g, i * 4 + j, none⟩ = false := fun j hj => by
    obtain ⟨⟨u, h1⟩, h2⟩ := HCL.out (i * 4 + j) (by have := HI.out; omega)
    exact ⟨⟨u, (hXo ⟨g, i * 4 + j, none⟩ (by show g ≠ _; omega)).trans h1⟩, (hXf _).trans h2⟩
  obtain ⟨⟨u0, s0⟩, l0⟩ := hcx 0 (by omega)
  obtain ⟨⟨u1, s1⟩, l1⟩ := hcx 1 (by omega)
  obtain ⟨⟨u2, s2⟩, l2⟩ := hcx 2 (by omega)
  obtain ⟨⟨u3, s3⟩, l3⟩ := hcx 3 (by omega)
  rw [Nat.add_zero] at s0 l0
  have HXO := hid hXo
  have HXF := hid hXf
  have HXB := hid hXB
  have HX4 : Hid (Box4 X w.heap.size tk tx tc (.slice (some ⟨g, 0, none⟩) ts.length n1)) := ⟨x0, x1, x2, x3⟩
  have HFR := hid hfr
  have HXS := hid hXs
  clear hXo hXf hXB hX hcx y0 y1 y2 q3 g3 hfr hgz hg1 hg2 ht0 hXs
  have i5 : (0 : Int) ≤ (i : Int) := by omega
  have i6 : (i : Int) < (ts.length : Int) := by have := HI.out; omega
  go_upto_region 3 with fail
  generalize hY : ((((X.setCell _ (.int .i64 kk)).setCell _ (.string kx)).setCell _ (.int .i64 kc)).setCell _ (.slice B ks.length cb)) = Y
  obtain ⟨⟨d0, d1, d2, d3⟩, hYs, hYB, hYo, hYr, hYf⟩ := fourAt s0 s1 s2 s3 _ _ _ _ hY.symm
  have hg1 := HG1.out
  have hz0 := HZ0.out
  have HKX := hid (HKV.out.keep (w' := Y) (fun q hq => (hYo q (by have : q.block < w.heap.size := HSS.out _ hq; omega)).trans (HXB.out.cell (HSS.out _ hq))) (fun _ h => h))
  have HSET : Hid (SliceR treeE Y (fun q => S q ∨ q = g) (ts.set i (Tree.mk kk kx kc ks)) (.slice (some ⟨g, 0, none⟩) ts.length n1)) := OwnT.put_ HO1.out HI.out HK.out HKX.out (fun q hq => by have h9 : q.block < w.heap.size := HSS.out _ hq; exact (hYo q (by omega)).trans (HXO.out q (by omega))) d0 d1 d2 d3 (fun j hj => (hYr j hj).trans (HXO.out _ (by show g ≠ _; omega)))
  obtain ⟨z0, z1, z2, z3⟩ := HX4.out.keep (fun o => hYo ⟨w.heap.size, o, none⟩ (by show w.heap.size ≠ g; omega))
  have HRY := HRX.out.keep (fun o => hYo ⟨w.heap.size + 1 + 1, o, none⟩ (by show w.heap.size + 1 + 1 ≠ g; omega))
  have HRY' := hid HRY
  obtain ⟨r0, r1, r2, r3⟩ := HRY
  obtain ⟨p0, p1, p2, p3⟩ := HFR.out
  have hfY : ∀ o, W1.frozen? ⟨w.heap.size + 1 + 1, o, none⟩ = false → Y.frozen? ⟨w.heap.size + 1 + 1, o, none⟩ = false := fun o h => (hYf _).trans ((HXF.out _).trans h)
  replace p0 := hfY _ p0
  replace p1 := hfY _ p1
  replace p2 := hfY _ p2
  replace p3 := hfY _ p3
  have HYB := hid (hYB w.heap.size w (by omega) HXB.out)
  have hYZ : Hid (g < Y.heap.size ∧ w.heap.size < Y.heap.size) := by show _ ∧ _; have := HG2.out; have := HXS.out; omega
  clear hY hYs hYB hYo hYr hYf d0 d1 d2 d3 s0 s1 s2 s3 l0 l1 l2 l3 x0 x1 x2 x3 k0 k1 k2 k3 hfY hz0
  go_wp2_with fail
  generalize hZ : ((((Y.setCell _ (.int .i64 tk)).setCell _ (.string tx)).setCell _ (.int .i64 tc)).setCell _ (.slice (some ⟨g, 0, none⟩) ts.length n1)) = Z
  obtain ⟨⟨e0, e1, e2, e3⟩, hZs, hZB, hZo, _, _⟩ := fourAt (o := 0) HRY'.out.1 HRY'.out.2.1 HRY'.out.2.2.1 HRY'.out.2.2.2 _ _ _ _ hZ.symm
  simp only [Nat.zero_add] at e1 e2 e3
  have HZB := hid (hZB w.heap.size w (by omega) HYB.out)
  have HZO := hid hZo
  have HZS := hid hZs
  clear hZ hZs hZB hZo
  refine bodyPost_ret (v := .agg #[.int .i64 tk, .string tx, .int .i64 tc, .slice (some ⟨g, 0, none⟩) ts.length n1]) (by simp [results, Tryz.results116, go_sem, e0, e1, e2, e3]) rfl ?_
  refine ⟨_, rfl, HSET.out.keep (fun q hq => HZO.out q ?_) (fun q hq => ?_), HZB.out⟩
  · have h9 : S q.block ∨ q.block = g := hq
    have := HZ0.out
    rcases h9 with h9 | h9
    · have := HSS.out _ h9
      omega
    · omega
  · have h9 : S q ∨ q = g := hq
    have := hYZ.out
    have := HZS.out
    have := HG1.out
    have := HZ0.out
    rcases h9 with h9 | h9
    · exact .inl h9
    · exact .inr ⟨by omega, by omega⟩
end Go.Proofs.YtbjcioknfjofkaaGreat
set_option linter.unusedVariables false
set_option linter.unusedSimpArgs false
namespace Go.Proofs.YtbjcioknfjofkaaGreat
open Go.RowKit
theorem toRow_q (w : World) (A : Option Addr) (n c : Nat) : Calls Tryz.prog 81 #[.slice A n c] w fun e w' => e = .returned (.agg #[.int .i64 1, .string ⟨#[]⟩, .int .i64 0, .slice A n c]) ∧ Below w.heap.size w w' := by
  go_enter Tryz.func81, Tryz.ntmps81
  go_wp2
  exact bodyPost_ret (v := .agg #[.int .i64 1, .string ⟨#[]⟩, .int .i64 0, .slice A n c]) (by simp [results, Tryz.results81, go_sem]) rfl ⟨rfl, (Below.refl _ _).alloc (Nat.le_refl _) _⟩
theorem validItems_any (ts : List Tree) (A : Option Addr) (cap : Nat) (w : World) (hv : SliceR treeE w (Lt w.heap.size) ts (.slice A ts.length cap)) (hct : countsS ts ≤ 100000000) :
    Calls Tryz.prog 112 #[.slice A ts.length cap] w fun e w' => e = .returned (.bool (validS (rowT ts))) ∧ Below w.heap.size w w' := by
  have C1 : Hid (∀ W, Below w.heap.size w W → Calls Tryz.prog 35 #[.agg #[.int .i64 1, .string ⟨#[]⟩, .int .i64 0, .slice A ts.length cap]] W fun e w' => e = .returned (.bool (validS (rowT ts))) ∧ Below W.heap.size W w') :=
    fun W hW => valid_any (rowT ts) A cap W (hv.below hW hW.size) (show (⟨#[]⟩ : ByteArray).size ≤ maxLen from Nat.zero_le _) (by unfold rowT; rw [countS]; omega)
  clear hv hct
  go_enter Tryz.func112, Tryz.ntmps112
  go_wp2_with fail
  refine (toRow_q _ _ _ _).mono ?_
  rintro e w1 ⟨rfl, hb1⟩
  have HB1 := hid hb1
  clear hb1
  go_wp2_with fail
  refine (C1.out _ HB1.out).mono ?_
  rintro e w2 ⟨rfl, hb2⟩
  go_wp2_with fail
  go_ret
  exact ⟨rfl, HB1.out.trans (hb2.mono HB1.out.size)⟩
end Go.Proofs.YtbjcioknfjofkaaGreat
set_option linter.unusedVariables false
set_option linter.unusedSimpArgs false
set_option maxRecDepth 100000
namespace Go.Proofs.YtbjcioknfjofkaaGreat
open Go.RowKit
theorem OwnT.rowsN {w : World} {b : Nat} {S : Nat → Prop} {ts : List Tree} {v : Value} (h : OwnT w b S ts v) : SliceR treeE w (fun q => S q ∨ b ≤ q ∧ q < w.heap.size) ts v := by
  obtain ⟨cs, h1, h2⟩ := h
  exact SliceR.of_own (E := treeE) h1 (fun k hk => .inr (h1.lt k hk)) (h2.keep (sameRefl _ _) (fun _ h => .inl h))
theorem newer {w w' : World} {S : Nat → Prop} {b : Nat} {l : List Tree} {v : Value} (h : SliceR treeE w (fun q => S q ∨ b ≤ q ∧ q < w.heap.size) l v) (hS : ∀ q, S q → q < w.heap.size) (hb : Below w.heap.size w w') : SliceR treeE w' (fun q => S q ∨ b ≤ q ∧ q < w'.heap.size) l v :=
  h.keep (fun q hq => hb.cell (by rcases hq with hq | hq; exact hS _ hq; exact hq.2)) (fun q hq => by rcases hq with hq | hq; exact .inl hq; exact .inr ⟨hq.1, Nat.lt_of_lt_of_le hq.2 hb.size⟩)
def filledS (t : Tree) (i : Nat) (l : List Tree) : Tree := replS t i (rowT l)
theorem blDrew {W X : World} (h : Below W.heap.size W X) : Below W.heap.size W X.drew := ⟨h.os, h.tape, h.output, h.size, h.block⟩
theorem ofDrew {w w' : World} {B : Nat} (h : Below B w.drew w') : Below B w w' := ⟨h.os, h.tape, h.output, h.size, h.block⟩
set_option maxHeartbeats 4000000 in
theorem filled_any (t : Tree) (i : Nat) (l : List Tree) (A B : Option Addr) (cap cb : Nat) (w : World) (S : Nat → Prop) (hS : ∀ q, S q → q < w.heap.size) (hi : i < t.kids.length) (hlen : t.kids.length ≤ 1000000) (hll : l.length ≤ 1000000) (hv : SliceR treeE w S t.kids (.slice A t.kids.length cap)) (hl : SliceR treeE w S l (.slice B l.length cb)) :
    Calls Tryz.prog 115 #[.agg #[.int .i64 t.kind, .string t.text, .int .i64 t.cols, .slice A t.kids.length cap], .int .i64 i, .slice B l.length cb] w (TreeP S w (filledS t i l)) := by
  have CR : Hid (∀ W v, Below w.heap.size w W → SliceR treeE W (fun q => S q ∨ w.heap.size + 1 + 1 ≤ q ∧ q < W.heap.size) l v → ∀ B' c', v = .slice B' l.length c' → Calls Tryz.prog 116 #[.agg #[.int .i64 t.kind, .string t.text, .int .i64 t.cols, .slice A t.kids.length cap], .int .i64 i, .agg #[.int .i64 1, .string ⟨#[]⟩, .int .i64 0, .slice B' l.length c']] W (TreeP (fun q => S q ∨ w.heap.size + 1 + 1 ≤ q ∧ q < W.heap.size) W (filledS t i l))) := by
    intro W v hW hr B' c' hv'
    subst hv'
    exact replaced_any t (rowT l) i A B' cap c' W _ (fun q hq => by
      have hz := hW.size
      rcases hq with hq | hq
      · have := hS q hq; omega
      · exact hq.2) hi hlen ⟨by simp [rowT, Tree.kind, In64], by simp [rowT, Tree.cols, In64], Nat.zero_le _⟩ (hv.keep (fun q hq => hW.cell (hS _ hq)) (fun q hq => .inl hq)) hr
  have HFS : Hid (filledS t i l = filledS t i l) := rfl
  generalize filledS t i l = R at *
  obtain ⟨tk, tx, tc, ts⟩ := t
  obtain ⟨rk, rx, rc, rs⟩ := R
  simp only [Tree.kind, Tree.text, Tree.cols, Tree.kids] at *
  generalize hW0 : (w.alloc (Obj.cells #[.int .i64 tk, .string tx, .int .i64 tc, .slice A ts.length cap] 24)).alloc (Obj.cells #[.int .i64 0, .string ⟨#[]⟩, .int .i64 0, .slice none 0 0] 24) = W0
  have hz0 : W0.heap.size = w.heap.size + 1 + 1 := by rw [← hW0]; simp
  have hB0 : Below w.heap.size w W0 := by rw [← hW0]; exact blAlloc (blA _ _) _
  have hbT : Box4 W0 w.heap.size tk tx tc (.slice A ts.length cap) := by
    rw [← hW0]
    exact (Box4.new w _ _ _ _ _).below (blA _ _) (by simp)
  have hbR : Box4 W0 (w.heap.size + 1) 0 ⟨#[]⟩ 0 (.slice none 0 0) ∧ Free4 W0 (w.heap.size + 1) := by
    rw [← hW0]
    have h := Box4.new (w.alloc (Obj.cells #[.int .i64 tk, .string tx, .int .i64 tc, .slice A ts.length cap] 24)) 0 ⟨#[]⟩ 0 (.slice none 0 0) 24
    have h2 := Free4.new (w.alloc (Obj.cells #[.int .i64 tk, .string tx, .int .i64 tc, .slice A ts.length cap] 24)) #[.int .i64 0, .string ⟨#[]⟩, .int .i64 0, .slice none 0 0] 24
    exact ⟨by simpa using h, by simpa using h2⟩
  have KC : Hid (∀ W, Below W0.heap.size W0 W → Box4 W w.heap.size tk tx tc (.slice A ts.length cap) ∧ Box4 W (w.heap.size + 1) 0 ⟨#[]⟩ 0 (.slice none 0 0) ∧ Free4 W (w.heap.size + 1) ∧ Below w.heap.size w W) := fun W h => ⟨hbT.below h (by omega), hbR.1.below h (by omega), hbR.2.below h (by omega), hB0.trans (h.mono hB0.size)⟩
  have hl0 : SliceR treeE W0 S l (.slice B l.length cb) := hl.keep (fun q hq => hB0.cell (hS _ hq)) (fun _ h => h)
  have HE1 : Hid (∀ W', W' = W0.alloc (.cells #[] 24) → OwnT W'.drew W0.heap.size S [] (.slice (some ⟨W0.heap.size, 0, none⟩) 0 0) ∧ SliceR treeE W'.drew S l (.slice B l.length cb) ∧ Below W0.heap.size W0 W'.drew) := by
    rintro W' rfl
    have hb : Below W0.heap.size W0 (W0.alloc (.cells #[] 24)).drew := (blA _ _).drew
    exact ⟨OwnT.empty W0 S, hl0.keep (fun q hq => hb.cell (by have := hS _ hq; omega)) (fun _ h => h), hb⟩
  have HZ0 := hid hz0
  have HLE : Hid (w.heap.size ≤ W0.heap.size) := by show _ ≤ _; omega
  have HSS := hid hS
  obtain ⟨m0, m1, m2, m3⟩ := hbT
  clear hS hv hl hl0 hi hlen hB0 hbR hz0
  go_enter Tryz.func115, Tryz.ntmps115
  go_wp2_with fail
  clear hW0
  go_region_held3 (fun w' => w'.cell? ⟨w.heap.size, 0, none⟩ = some (.int .i64 tk) ∧ w'.cell? ⟨w.heap.size, 1, none⟩ = some (.string tx) ∧ w'.cell? ⟨w.heap.size, 2, none⟩ = some (.int .i64 tc) ∧ w'.cell? ⟨w.heap.size, 3, none⟩ = some (.slice A ts.length cap)) (go_keep) (first
    | (refine step_appT (by rfl) (.tmp 9) (.tmp 10) (by rfl) W0.heap.size S (fun q hq => Nat.lt_of_lt_of_le (HSS.out q hq) HLE.out) _ [] l (by rfl) (HE1.out _ rfl).1 _ _ _ (by rfl) (HE1.out _ rfl).2.1 (by simp; omega) (by simp) ?_; intro v1 w1 hown1 hb1; rw [List.nil_append] at hown1; have HB1 := hid ((HE1.out _ rfl).2.2.trans hb1); have HR1 : Hid (SliceR treeE w1 (fun q => S q ∨ w.heap.size + 1 + 1 ≤ q ∧ q < w1.heap.size) l v1) := by { have h := hown1.rowsN; rw [HZ0.out] at h; exact h }; have HS1 : Hid (∀ q, S q → q < w1.heap.size) := fun q hq => Nat.lt_of_lt_of_le (HSS.out q hq) (Nat.le_trans HLE.out HB1.out.size); obtain ⟨A1, n1, rfl⟩ := hown1.form; obtain ⟨⟨p0, p1, p2, p3⟩, _⟩ := KC.out w1 HB1.out; clear hown1 hb1)
    | (go_at_call 81; refine (toRow_q _ _ _ _).mono ?_; rintro e w2 ⟨rfl, hb2⟩; have HB2 := hid (blCall HB1.out (ofDrew hb2)); have HR2 : Hid (SliceR treeE w2 (fun q => S q ∨ w.heap.size + 1 + 1 ≤ q ∧ q < w2.heap.size) l (.slice A1 l.length n1)) := newer HR1.out HS1.out (ofDrew hb2); obtain ⟨⟨p0, p1, p2, p3⟩, _, _, hbw2⟩ := KC.out w2 HB2.out; have HK2 := hid hbw2; clear hb2 hbw2)
    | (go_at_call 81; refine (toRow_q _ _ _ _).mono ?_; rintro e w2 ⟨rfl, hb2⟩; have HB2 := hid (blCall HB1.out hb2); have HR2 : Hid (SliceR treeE w2 (fun q => S q ∨ w.heap.size + 1 + 1 ≤ q ∧ q < w2.heap.size) l (.slice A1 l.length n1)) := newer HR1.out HS1.out hb2; obtain ⟨⟨p0, p1, p2, p3⟩, _, _, hbw2⟩ := KC.out w2 HB2.out; have HK2 := hid hbw2; clear hb2 hbw2)
    | (go_at_call 116; refine (CR.out _ _ HK2.out HR2.out _ _ rfl).mono ?_; intro e w3 h3; obtain ⟨v3, rfl, hr3, hb3⟩ : ∃ v, e = .returned (.agg #[.int .i64 rk, .string rx, .int .i64 rc, v]) ∧ SliceR treeE w3 (fun q => (S q ∨ w.heap.size + 1 + 1 ≤ q ∧ q < w2.heap.size) ∨ w2.heap.size ≤ q ∧ q < w3.heap.size) rs v ∧ Below w2.heap.size w2 w3 := h3; obtain ⟨A3, n3, rfl⟩ := hr3.form; have HR3 := hid hr3; have HB3 := hid (blCall HB2.out hb3); have HS3 := hid hb3; obtain ⟨⟨p0, p1, p2, p3⟩, hrb, ⟨f0, f1, f2, f3⟩, hbw3⟩ := KC.out w3 HB3.out; have HRB := hid hrb; obtain ⟨r0, r1, r2, r3⟩ := hrb; have HK3 := hid hbw3; clear hb3 hbw3 hr3))
  all_goals
    have hz2 : w.heap.size + 1 < w2.heap.size := by have := HB2.out.size; have := HZ0.out; omega
    have HZ2 := hid hz2
    clear hz2
    go_wp2_with fail
    generalize hZ : ((((w3.setCell _ (.int .i64 rk)).setCell _ (.string rx)).setCell _ (.int .i64 rc)).setCell _ (.slice A3 rs.length n3)) = Z
    obtain ⟨⟨e0, e1, e2, e3⟩, hZs, hZB, hZo, _, _⟩ := fourAt (o := 0) HRB.out.1 HRB.out.2.1 HRB.out.2.2.1 HRB.out.2.2.2 _ _ _ _ hZ.symm
    simp only [Nat.zero_add] at e1 e2 e3
    have HZB := hid (hZB w.heap.size w (by omega) HK3.out)
    have HZO := hid hZo
    have HZS := hid hZs
    clear hZ hZs hZB hZo
    refine bodyPost_ret (v := .agg #[.int .i64 rk, .string rx, .int .i64 rc, .slice A3 rs.length n3]) (by simp [results, Tryz.results115, go_sem, e0, e1, e2, e3]) rfl ?_
    have HS3 := HS3.out.size
    have HZ2 := HZ2.out
    have HZS := HZS.out
    refine ⟨_, rfl, HR3.out.keep (fun q hq => HZO.out q ?_) (fun q hq => ?_), HZB.out⟩
    · rcases hq with (hq | hq) | hq
      · have := HSS.out _ hq; omega
      · omega
      · omega
    · rcases hq with (hq | hq) | hq
      · exact .inl hq
      · exact .inr ⟨by omega, by omega⟩
      · exact .inr ⟨by omega, by omega⟩
end Go.Proofs.YtbjcioknfjofkaaGreat
set_option linter.unusedVariables false
set_option linter.unusedSimpArgs false
set_option maxRecDepth 100000
namespace Go.Proofs.YtbjcioknfjofkaaGreat
open Go.RowKit
def spliceS (l : List Tree) (a b : Nat) (by_ : List Tree) : List Tree := l.take a ++ by_ ++ l.drop b
def ListP (S : Nat → Prop) (w : World) (L : List Tree) (e : Ending) (w' : World) : Prop :=
  ∃ v, e = .returned v ∧ SliceR treeE w' (fun q => S q ∨ w.heap.size ≤ q ∧ q < w'.heap.size) L v ∧ Below w.heap.size w w'
set_option maxHeartbeats 4000000 in
theorem splice_any (l bs : List Tree) (x y : Int) (a b : Nat) (A B : Option Addr) (cap cb : Nat) (w : World) (S : Nat → Prop) (hS : ∀ q, S q → q < w.heap.size) (hx : x = a) (hy : y = b) (ha : a ≤ l.length) (hb : b ≤ l.length) (hll : l.length ≤ 1000000) (hlb : bs.length ≤ 1000000) (hv : SliceR treeE w S l (.slice A l.length cap)) (hl : SliceR treeE w S bs (.slice B bs.length cb)) :
    Calls Tryz.prog 114 #[.slice A l.length cap, .int .i64 x, .int .i64 y, .slice B bs.length cb] w (ListP S w (spliceS l a b bs)) := by
  have hn1 : l.length ≤ cap := by obtain ⟨_, _, _, hq, h1, _⟩ := hv; cases hq; exact h1
  obtain ⟨A1, hsl1, hcut1⟩ := cut_h treeE Tryz.underlying22 size_node A l.length cap x a hx ha hn1
  obtain ⟨A2, hsl2, hcut2⟩ := cut_l treeE Tryz.underlying22 size_node A l.length cap y b hy hb
  have HSS := hid hS
  have HC1 := hid (hcut1 _ _ _ hv)
  have HC2 := hid (hcut2 _ _ _ hv)
  have HBS := hid hl
  have HOE := hid (OwnT.empty w S)
  have HL : Hid (spliceS l a b bs = l.take a ++ bs ++ l.drop b) := rfl
  have hk : ∀ {ts : List Tree} {v : Value} {W : World}, SliceR treeE w S ts v → Below w.heap.size w W → SliceR treeE W S ts v := fun h hW => h.keep (fun q hq => hW.cell (hS _ hq)) (fun _ h => h)
  have HKE : Hid (∀ (ts : List Tree) (v : Value) (W : World), SliceR treeE w S ts v → Below w.heap.size w W → SliceR treeE W S ts v) := fun _ _ _ h hW => hk h hW
  have HLA : Hid (a ≤ l.length ∧ b ≤ l.length ∧ l.length ≤ 1000000 ∧ bs.length ≤ 1000000) := ⟨ha, hb, hll, hlb⟩
  generalize spliceS l a b bs = L at *
  clear hv hl hS hcut1 hcut2 hx hy ha hb hll hlb hk
  go_enter Tryz.func114, Tryz.ntmps114
  go_wp2_with first
    | (refine appT rfl (.tmp 10) (.tmp 13) rfl w.heap.size S (fun q hq => HSS.out q hq) _ [] (l.take a) rfl HOE.out _ _ _ rfl (HKE.out _ _ _ HC1.out (blA _ _)) (by have := HLA.out; simp; omega) (by simp) ?_
       intro v1 w1 ho1 hb1
       rw [List.nil_append] at ho1
       have HO1 := hid ho1
       have HB1 := hid ((blA w (.cells #[] 24)).trans hb1)
       clear ho1 hb1)
    | (refine appT rfl (.tmp 15) (.tmp 16) rfl w.heap.size S (fun q hq => HSS.out q hq) _ (l.take a) bs rfl HO1.out _ _ _ rfl (HKE.out _ _ _ HBS.out HB1.out) (by have := HLA.out; simp; omega) HB1.out.size ?_
       intro v2 w2 ho2 hb2
       have HO2 := hid ho2
       have HB2 := hid (HB1.out.trans hb2)
       clear ho2 hb2)
    | (refine appT rfl (.tmp 18) (.tmp 21) rfl w.heap.size S (fun q hq => HSS.out q hq) _ (l.take a ++ bs) (l.drop b) rfl HO2.out _ _ _ rfl (HKE.out _ _ _ HC2.out HB2.out) (by have := HLA.out; simp; omega) HB2.out.size ?_
       intro v3 w3 ho3 hb3
       have HO3 := hid ho3
       have HB3 := hid (HB2.out.trans hb3)
       clear ho3 hb3)
  go_ret
  exact ⟨_, rfl, by rw [HL.out]; exact HO3.out.rowsN, HB3.out⟩
end Go.Proofs.YtbjcioknfjofkaaGreat
set_option linter.unusedVariables false
set_option linter.unusedSimpArgs false
namespace Go.Proofs.YtbjcioknfjofkaaGreat
theorem Tree.ind' {P : Tree → Prop} (h : ∀ t : Tree, (∀ k ∈ t.kids, ∀ u ∈ k.kids, P u) → P t) : ∀ t, P t := by
  intro t
  have : ∀ (n : Nat) (t : Tree), countS t ≤ n → P t := by
    intro n
    induction n with
    | zero => intro t ht; have : 0 < countS t := by cases t; rw [countS]; omega
              omega
    | succ n ih =>
      intro t ht
      have key : ∀ (ts : List Tree), ∀ k ∈ ts, countS k ≤ countsS ts := by
        intro ts
        induction ts with
        | nil => simp
        | cons u us ih => intro k hk; rw [countsS]; rcases List.mem_cons.1 hk with rfl | hk
                          · omega
                          · have := ih k hk; omega
      refine h t fun k hk u hu => ih u ?_
      cases t with
      | mk a b c ts => cases k with
        | mk a' b' c' us =>
        rw [countS] at ht
        have h1 := key ts _ hk
        rw [countS] at h1
        have h2 := key us u hu
        omega
  exact this _ t (Nat.le_refl _)
mutual
def allS (path : List Int) : Tree → List (List Int)
  | .mk _ _ _ ts => itemsS path 0 ts
def itemsS (path : List Int) (i : Nat) : List Tree → List (List Int)
  | [] => [path ++ [(i : Int)]]
  | .mk _ _ _ us :: ts => (path ++ [(i : Int)]) :: (slotsS path i 0 us ++ itemsS path (i + 1) ts)
def slotsS (path : List Int) (i k : Nat) : List Tree → List (List Int)
  | [] => []
  | u :: us => allS (path ++ [(i : Int), (k : Int)]) u ++ slotsS path i (k + 1) us
end
theorem allS_eq (path : List Int) (t : Tree) : allS path t = itemsS path 0 t.kids := by cases t; rw [allS]; rfl
theorem itemsS_cons (path : List Int) (i : Nat) (t : Tree) (ts : List Tree) : itemsS path i (t :: ts) = (path ++ [(i : Int)]) :: (slotsS path i 0 t.kids ++ itemsS path (i + 1) ts) := by cases t; rw [itemsS]; rfl
def posIn : Tree → List Int → Bool
  | t, i :: k :: p =>
    if hi : 0 ≤ i ∧ i.toNat < t.kids.length then
      if hk : 0 ≤ k ∧ k.toNat < (t.kids[i.toNat]'hi.2).kids.length then posIn ((t.kids[i.toNat]'hi.2).kids[k.toNat]'hk.2) p else false
    else false
  | t, [i] => decide (0 ≤ i ∧ i ≤ t.kids.length)
  | _, [] => false
theorem mem_slots (path : List Int) (i : Nat) (q : List Int) : ∀ (us : List Tree) (k : Nat), q ∈ slotsS path i k us ↔ ∃ (j : Nat) (h : j < us.length), q ∈ allS (path ++ [(i : Int), ((k + j : Nat) : Int)]) us[j] := by
  intro us
  induction us with
  | nil => intro k; simp [slotsS]
  | cons u us ih =>
    intro k
    rw [slotsS, List.mem_append, ih]
    constructor
    · rintro (h | ⟨j, h, hq⟩)
      · exact ⟨0, by simp, by simpa using h⟩
      · refine ⟨j + 1, by simpa using h, ?_⟩
        rw [show k + (j + 1) = k + 1 + j by omega]; simpa using hq
    · rintro ⟨j, h, hq⟩
      cases j with
      | zero => left; simpa using hq
      | succ j => right; refine ⟨j, by simpa using h, ?_⟩; rw [show k + 1 + j = k + (j + 1) by omega]; simpa using hq
theorem mem_items (path : List Int) (q : List Int) : ∀ (ts : List Tree) (i : Nat), q ∈ itemsS path i ts ↔ (∃ j, j ≤ ts.length ∧ q = path ++ [((i + j : Nat) : Int)]) ∨ ∃ (j : Nat) (h : j < ts.length), q ∈ slotsS path (i + j) 0 ts[j].kids := by
  intro ts
  induction ts with
  | nil =>
    intro i
    simp only [itemsS, List.mem_singleton, List.length_nil]
    constructor
    · intro h; exact .inl ⟨0, Nat.le_refl _, h⟩
    · rintro (⟨j, hj, h⟩ | ⟨j, hj, _⟩)
      · obtain rfl : j = 0 := by omega
        exact h
      · omega
  | cons t ts ih =>
    intro i
    rw [itemsS_cons, List.mem_cons, List.mem_append, ih]
    constructor
    · rintro (h | h | ⟨j, hj, h⟩ | ⟨j, hj, h⟩)
      · exact .inl ⟨0, by simp, h⟩
      · exact .inr ⟨0, by simp, by simpa using h⟩
      · exact .inl ⟨j + 1, by simpa using hj, by rw [h, show i + (j + 1) = i + 1 + j by omega]⟩
      · refine .inr ⟨j + 1, by simpa using hj, ?_⟩
        rw [show i + (j + 1) = i + 1 + j by omega]; simpa using h
    · rintro (⟨j, hj, h⟩ | ⟨j, hj, h⟩)
      · cases j with
        | zero => exact .inl h
        | succ j => exact .inr (.inr (.inl ⟨j, by simpa using hj, by rw [h, show i + (j + 1) = i + 1 + j by omega]⟩))
      · cases j with
        | zero => exact .inr (.inl (by simpa using h))
        | succ j =>
          refine .inr (.inr (.inr ⟨j, by simpa using hj, ?_⟩))
          rw [show i + 1 + j = i + (j + 1) by omega]; simpa using h
theorem mem_allS (t : Tree) : ∀ (path q : List Int), q ∈ allS path t ↔ ∃ r, q = path ++ r ∧ posIn t r = true := by
  induction t using Tree.ind' with
  | h t ih =>
  intro path q
  rw [allS_eq, mem_items]
  constructor
  · rintro (⟨j, hj, rfl⟩ | ⟨j, hj, h⟩)
    · exact ⟨_, rfl, by simp only [posIn, decide_eq_true_eq]; omega⟩
    · rw [mem_slots] at h
      obtain ⟨k, hk, h⟩ := h
      rw [ih t.kids[j] (List.getElem_mem hj) _ (List.getElem_mem hk)] at h
      obtain ⟨r, rfl, hr⟩ := h
      refine ⟨((0 + j : Nat) : Int) :: ((0 + k : Nat) : Int) :: r, by simp, ?_⟩
      simp only [Nat.zero_add, posIn, Int.natCast_nonneg, Int.toNat_natCast, true_and, hj, hk, dif_pos]
      exact hr
  · rintro ⟨r, rfl, hr⟩
    match r, hr with
    | [i], hr =>
      simp only [posIn, decide_eq_true_eq] at hr
      exact .inl ⟨i.toNat, by omega, by rw [show ((0 + i.toNat : Nat) : Int) = i by omega]⟩
    | i :: k :: r, hr =>
      simp only [posIn] at hr
      split at hr
      · rename_i hi
        split at hr
        · rename_i hk
          refine .inr ⟨i.toNat, hi.2, ?_⟩
          rw [mem_slots]
          refine ⟨k.toNat, hk.2, ?_⟩
          rw [ih _ (List.getElem_mem hi.2) _ (List.getElem_mem hk.2)]
          exact ⟨r, by rw [show ((0 + i.toNat : Nat) : Int) = i by omega, show ((0 + k.toNat : Nat) : Int) = k by omega]; simp, hr⟩
        · cases hr
      · cases hr
    | [], hr => simp [posIn] at hr
theorem mem_all {t : Tree} {q : List Int} : q ∈ allS [] t ↔ posIn t q = true := by rw [mem_allS]; simp
theorem cmpS_append : ∀ (p a b : List Int), cmpS (p ++ a) (p ++ b) = cmpS a b
  | [], a, b => rfl
  | x :: p, a, b => by rw [List.cons_append, List.cons_append, cmpS, if_neg (by omega), if_neg (by omega)]; exact cmpS_append p a b
theorem cmpS_self : ∀ a, cmpS a a = 0
  | [] => rfl
  | x :: a => by rw [cmpS, if_neg (by omega), if_neg (by omega)]; exact cmpS_self a
theorem cmpS_range : ∀ a b, cmpS a b = -1 ∨ cmpS a b = 0 ∨ cmpS a b = 1
  | [], [] => by simp [cmpS]
  | [], _ :: _ => by simp [cmpS]
  | _ :: _, [] => by simp [cmpS]
  | x :: a, y :: b => by
    rw [cmpS]
    split
    · simp
    · split
      · simp
      · exact cmpS_range a b
theorem cmpS_swap : ∀ a b, cmpS b a = - cmpS a b
  | [], [] => by simp [cmpS]
  | [], _ :: _ => by simp [cmpS]
  | _ :: _, [] => by simp [cmpS]
  | x :: a, y :: b => by
    have ih := cmpS_swap a b
    rw [cmpS, cmpS]
    by_cases h1 : x < y
    · rw [if_neg (by omega), if_pos h1, if_pos h1]; rfl
    · by_cases h2 : y < x
      · rw [if_pos h2, if_neg h1, if_pos h2]
      · rw [if_neg h2, if_neg h1, if_neg h1, if_neg h2, ih]
theorem cmpS_trans : ∀ a b c, cmpS a b ≤ 0 → cmpS b c ≤ 0 → cmpS a c ≤ 0 ∧ (cmpS a c = 0 → cmpS a b = 0 ∧ cmpS b c = 0)
  | [], [], c => by simp [cmpS]
  | [], _ :: _, [] => by simp [cmpS]
  | [], _ :: _, _ :: _ => by simp [cmpS]
  | _ :: _, [], c => by simp [cmpS]
  | _ :: _, _ :: _, [] => by simp [cmpS]
  | x :: a, y :: b, z :: c => by
    have ih := cmpS_trans a b c
    rw [cmpS, cmpS, cmpS]
    by_cases h1 : x < y
    · by_cases h2 : y < z
      · rw [if_pos h1, if_pos h2, if_pos (show x < z by omega)]; intros; omega
      · by_cases h3 : z < y
        · rw [if_neg h2, if_pos h3]; intros; omega
        · rw [if_pos h1, if_pos (show x < z by omega)]; intros; omega
    · by_cases h1' : y < x
      · rw [if_neg h1, if_pos h1']; intros; omega
      · by_cases h2 : y < z
        · rw [if_pos h2, if_pos (show x < z by omega)]; intros; omega
        · by_cases h3 : z < y
          · rw [if_neg h2, if_pos h3]; intros; omega
          · rw [if_neg h1, if_neg h1', if_neg h2, if_neg h3, if_neg (show ¬ x < z by omega), if_neg (show ¬ z < x by omega)]
            exact ih
def ltS (a b : List Int) : Prop := cmpS a b < 0
theorem ltS_trans {a b c : List Int} (h1 : ltS a b) (h2 : ltS b c) : ltS a c := by
  unfold ltS at *
  have h := cmpS_trans a b c (by omega) (by omega)
  have r := cmpS_range a c
  by_cases h0 : cmpS a c = 0
  · have := h.2 h0; omega
  · omega
theorem items_form (path : List Int) : ∀ (ts : List Tree) (i : Nat) (q : List Int), q ∈ itemsS path i ts → ∃ (x : Int) (r : List Int), q = path ++ x :: r ∧ (i : Int) ≤ x := by
  intro ts i q h
  rw [mem_items] at h
  rcases h with ⟨j, _, rfl⟩ | ⟨j, hj, h⟩
  · exact ⟨_, [], rfl, by omega⟩
  · rw [mem_slots] at h
    obtain ⟨k, hk, h⟩ := h
    rw [mem_allS] at h
    obtain ⟨r, rfl, _⟩ := h
    exact ⟨((i + j : Nat) : Int), _, by simp only [List.append_assoc, List.cons_append, List.nil_append]; rfl, by omega⟩
theorem slots_form (path : List Int) (i k : Nat) (us : List Tree) (q : List Int) (h : q ∈ slotsS path i k us) : ∃ (y : Int) (r : List Int), q = path ++ (i : Int) :: y :: r ∧ (k : Int) ≤ y := by
  rw [mem_slots] at h
  obtain ⟨j, hj, h⟩ := h
  rw [mem_allS] at h
  obtain ⟨r, rfl, _⟩ := h
  exact ⟨((k + j : Nat) : Int), r, by simp, by omega⟩
mutual
theorem allS_sorted (path : List Int) : (t : Tree) → (allS path t).Pairwise ltS
  | .mk _ _ _ ts => by rw [allS]; exact itemsS_sorted path 0 ts
theorem itemsS_sorted (path : List Int) (i : Nat) : (ts : List Tree) → (itemsS path i ts).Pairwise ltS
  | [] => by rw [itemsS]; exact List.pairwise_singleton _ _
  | .mk _ _ _ us :: ts => by
    rw [itemsS, List.pairwise_cons]
    refine ⟨fun q hq => ?_, ?_⟩
    · rcases List.mem_append.1 hq with hq | hq
      · obtain ⟨y, r, rfl, _⟩ := slots_form path i 0 us q hq
        unfold ltS; rw [cmpS_append, cmpS, if_neg (by omega), if_neg (by omega), cmpS]; decide
      · obtain ⟨x, r, rfl, hx⟩ := items_form path ts (i + 1) q hq
        unfold ltS; rw [cmpS_append, cmpS, if_pos (by omega)]; decide
    · rw [List.pairwise_append]
      refine ⟨slotsS_sorted path i 0 us, itemsS_sorted path (i + 1) ts, fun a ha b hb => ?_⟩
      obtain ⟨y, r, rfl, _⟩ := slots_form path i 0 us a ha
      obtain ⟨x, s, rfl, hx⟩ := items_form path ts (i + 1) b hb
      unfold ltS; rw [cmpS_append, cmpS, if_pos (by omega)]; decide
theorem slotsS_sorted (path : List Int) (i k : Nat) : (us : List Tree) → (slotsS path i k us).Pairwise ltS
  | [] => by rw [slotsS]; exact List.Pairwise.nil
  | u :: us => by
    rw [slotsS, List.pairwise_append]
    refine ⟨allS_sorted _ u, slotsS_sorted path i (k + 1) us, fun a ha b hb => ?_⟩
    rw [mem_allS] at ha
    obtain ⟨r, rfl, _⟩ := ha
    obtain ⟨y, s, rfl, hy⟩ := slots_form path i (k + 1) us b hb
    unfold ltS; rw [List.append_assoc, cmpS_append]; show cmpS ((i : Int) :: (k : Int) :: r) _ < 0
    rw [cmpS, if_neg (by omega), if_neg (by omega), cmpS, if_pos (by omega)]; decide
end
mutual
def cntS : Tree → Nat
  | .mk _ _ _ ts => itemsC ts
def itemsC : List Tree → Nat
  | [] => 1
  | .mk _ _ _ us :: ts => 1 + (slotsC us + itemsC ts)
def slotsC : List Tree → Nat
  | [] => 0
  | u :: us => cntS u + slotsC us
end
mutual
theorem allS_len (path : List Int) : (t : Tree) → (allS path t).length = cntS t
  | .mk _ _ _ ts => by rw [allS, cntS]; exact itemsS_len path 0 ts
theorem itemsS_len (path : List Int) (i : Nat) : (ts : List Tree) → (itemsS path i ts).length = itemsC ts
  | [] => by rw [itemsS, itemsC]; rfl
  | .mk _ _ _ us :: ts => by rw [itemsS, itemsC, List.length_cons, List.length_append, slotsS_len path i 0 us, itemsS_len path (i + 1) ts]; omega
theorem slotsS_len (path : List Int) (i k : Nat) : (us : List Tree) → (slotsS path i k us).length = slotsC us
  | [] => by rw [slotsS, slotsC]; rfl
  | u :: us => by rw [slotsS, slotsC, List.length_append, allS_len _ u, slotsS_len path i (k + 1) us]
end
mutual
theorem cntS_le : (t : Tree) → cntS t ≤ 2 * countS t
  | .mk _ _ _ ts => by rw [cntS, countS]; have := itemsC_le ts; omega
theorem itemsC_le : (ts : List Tree) → itemsC ts ≤ 1 + 2 * countsS ts
  | [] => by rw [itemsC]; omega
  | .mk _ _ _ us :: ts => by rw [itemsC, countsS, countS]; have := slotsC_le us; have := itemsC_le ts; omega
theorem slotsC_le : (us : List Tree) → slotsC us ≤ 2 * countsS us
  | [] => by rw [slotsC]; omega
  | u :: us => by rw [slotsC, countsS]; have := cntS_le u; have := slotsC_le us; omega
end
theorem cntS_pos (t : Tree) : 0 < cntS t := by
  obtain ⟨_, _, _, ts⟩ := t
  rw [cntS]
  match ts with
  | [] => rw [itemsC]; omega
  | .mk _ _ _ _ :: _ => rw [itemsC]; omega
theorem depthS_kid {t : Tree} {j : Nat} (h : j < t.kids.length) : depthS t.kids[j] + 1 ≤ depthS t := by
  obtain ⟨_, _, _, ts⟩ := t
  simp only [Tree.kids] at *
  rw [depthS]
  have h1 := depthsS_append (ts.take j) (ts.drop j)
  rw [List.take_append_drop, List.drop_eq_getElem_cons (show j < ts.length from h), depthsS] at h1
  omega
theorem countS_kid {t : Tree} {j : Nat} (h : j < t.kids.length) : countS t.kids[j] + 1 ≤ countS t := by
  obtain ⟨_, _, _, ts⟩ := t
  simp only [Tree.kids] at *
  rw [countS]
  have h1 := countsS_append (ts.take j) (ts.drop j)
  rw [List.take_append_drop, List.drop_eq_getElem_cons (show j < ts.length from h), countsS] at h1
  omega
theorem kids_le_count (t : Tree) : t.kids.length + 1 ≤ countS t := by
  obtain ⟨_, _, _, ts⟩ := t
  simp only [Tree.kids]
  rw [countS]
  have : ts.length ≤ countsS ts := by
    induction ts with
    | nil => simp
    | cons u us ih => obtain ⟨_, _, _, vs⟩ := u; rw [countsS, countS, List.length_cons]; omega
  omega
theorem posIn_bd (t : Tree) : ∀ (q : List Int), posIn t q = true → q.length ≤ depthS t ∧ ∀ x ∈ q, 0 ≤ x ∧ x ≤ countS t := by
  induction t using Tree.ind' with
  | h t ih =>
  intro q hq
  have hkc := kids_le_count t
  match q, hq with
  | [i], hq =>
    simp only [posIn, decide_eq_true_eq] at hq
    refine ⟨?_, by simp; omega⟩
    obtain ⟨_, _, _, ts⟩ := t
    rw [depthS]; simp
  | i :: k :: r, hq =>
    simp only [posIn] at hq
    split at hq
    · rename_i hi
      split at hq
      · rename_i hk
        obtain ⟨h1, h2⟩ := ih _ (List.getElem_mem hi.2) _ (List.getElem_mem hk.2) r hq
        have d1 := depthS_kid hi.2
        have d2 := depthS_kid hk.2
        have c1 := countS_kid hi.2
        have c2 := countS_kid hk.2
        have k2 := kids_le_count (t.kids[i.toNat]'hi.2)
        refine ⟨by simp only [List.length_cons]; omega, ?_⟩
        intro x hx
        simp only [List.mem_cons] at hx
        rcases hx with rfl | rfl | hx
        · omega
        · omega
        · have := h2 x hx; omega
      · cases hq
    · cases hq
  | [], hq => simp [posIn] at hq
end Go.Proofs.YtbjcioknfjofkaaGreat
set_option linter.unusedVariables false
set_option linter.unusedSimpArgs false
namespace Go.Proofs.YtbjcioknfjofkaaGreat
open Go.RowKit
def Bd (M x : Int) : Prop := -M ≤ x ∧ x ≤ M
theorem rows2 {w w' : World} {S : Nat → Prop} {a b : List Int} {va vb : Value} (ha : IntsR w S a va) (hb : IntsR w S b vb) (e : TypeId) (he : w' = w.alloc (.cells #[va, vb] e)) (hS : ∀ k, S k → k < w.heap.size) (g : Nat) (hg : g = w.heap.size) :
    SliceR (sliceE intE) w' (Lt w'.heap.size) [a, b] (.slice (some ⟨g, 0, none⟩) 2 2) := by
  subst he hg
  have hk : Same S w (w.alloc (.cells #[va, vb] e)) := fun p hp => World.cell?_alloc_lt w _ p (hS _ hp)
  have hm : ∀ k, S k → Lt (w.alloc (.cells #[va, vb] e)).heap.size k := fun k h => by have := hS k h; unfold Lt; simp; omega
  refine ⟨_, _, [va, vb], rfl, Nat.le_refl _, by simp [maxLen], fun _ => ⟨w.heap.size, 0, rfl, by unfold Lt; simp, fun j u hu => ?_⟩, ?_⟩
  · rw [Nat.zero_add, World.cell?_alloc_new]; simpa using hu
  · exact ⟨[va], _, rfl, ⟨va, rfl, ha.keep hk hm⟩, [vb], _, rfl, ⟨vb, rfl, hb.keep hk hm⟩, rfl⟩
theorem lt_alloc (w : World) (o : Obj) : ∀ k, Lt w.heap.size k → Lt (w.alloc o).heap.size k := fun k h => by unfold Lt at *; simp; omega
theorem SliceR.alloc {α : Type} {E : Enc α} {w : World} {xs : List α} {v : Value} (h : SliceR E w (Lt w.heap.size) xs v) (o : Obj) : SliceR E (w.alloc o) (Lt (w.alloc o).heap.size) xs v :=
  h.keep (fun p hp => World.cell?_alloc_lt w o p hp) (lt_alloc w o)
theorem below_draw {B : Nat} {w w' : World} (h : Below B w w') (n : Nat) : Below B w (w'.drewN n) := h.trans (Below.mono ⟨rfl, rfl, rfl, Nat.le_refl _, fun _ _ => rfl⟩ (Nat.le_refl _))
end Go.Proofs.YtbjcioknfjofkaaGreat
