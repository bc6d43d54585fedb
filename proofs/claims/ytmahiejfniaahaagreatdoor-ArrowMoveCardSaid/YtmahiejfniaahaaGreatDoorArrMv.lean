/- arrow.mover: path, left, right, home, up (where there is no caret). Written by wip/genarr.py. -/
import Derived.Test.YtmahiejfniaahaaGreatDoorGF
import Derived.Test.YtmahiejfniaahaaGreatDoorGR
import Derived.Test.YtmahiejfniaahaaGreatDoorGI
import Derived.Test.YtmahiejfniaahaaGreatDoorGM
set_option linter.unusedVariables false
set_option linter.unusedSimpArgs false
set_option maxRecDepth 100000
namespace Go.Proofs.YtmahiejfniaahaaGreatDoor
open Go.RowKit
def MovBox (W : World) (g : Nat) (arr : Array Value) : Prop := ∀ j u, arr[j]? = some u → W.cell? ⟨g, j, none⟩ = some u
theorem MovBox.below {W W' : World} {B g : Nat} {arr : Array Value} (h : MovBox W g arr) (hb : Below B W W') (hB : g < B) : MovBox W' g arr := fun j u hu => ((bcell hb).1 g j hB).trans (h j u hu)
theorem MovBox.new (w : World) (arr : Array Value) (T : TypeId) (g : Nat) (hg : g = w.heap.size) : MovBox (w.alloc (.cells arr T)) g arr := fun j u hu => (cNew _ _ _ _ _ hg).trans hu
section
variable (tk : Int) (tx : ByteArray) (tc : Int) (tn cap : Nat) (A Ak As Ap : Option Addr) (kind size bw bh bd bx by_ of_ : Int) (name : ByteArray) (kn ck sn cs pn cp : Nat)
set_option maxHeartbeats 1000000 in
theorem mpath_any (q : List Int) (x : Int) (w : World) (hp : IntsR w (Lt w.heap.size) (q ++ [x]) (.slice Ap pn cp)) (hpn : pn = q.length + 1) :
    Calls Tryz.prog 96 #[.agg #[.int .i64 tk, .string tx, .int .i64 tc, .slice A tn cap, .int .i64 kind, .string name, .int .i64 size, .int .i64 bw, .int .i64 bh, .int .i64 bd, .int .i64 bx, .int .i64 by_, .slice Ak kn ck, .int .i64 of_, .slice As sn cs, .slice Ap pn cp]] w (IntsPost w q) := by
  subst hpn
  have hm := hp.lens
  have hp' : IntsR w (Lt w.heap.size) (q ++ [x]) (.slice Ap (q ++ [x]).length cp) := by simpa using hp
  have hcp : q.length + 1 ≤ cp := by obtain ⟨_, _, _, hq, h1, _⟩ := hp'; cases hq; simpa using h1
  have hm2 : q.length + 1 ≤ 9223372036854775807 := by simp at hm; unfold maxLen at hm; omega
  obtain ⟨A1, hsl, hcut⟩ := cut_h intE Tryz.underlying26 size_int Ap (q.length + 1) cp (q.length : Int) q.length rfl (by omega) hcp
  have hc := hcut _ _ _ (show IntsR w (Lt w.heap.size) (q ++ [x]) (.slice Ap (q.length + 1) cp) from by simpa using hp)
  rw [List.take_left' rfl] at hc
  have HC := hid hc
  clear hcut hc hp hp' hm hcp
  go_enter Tryz.func96, Tryz.ntmps96
  go_wp2_with fail
  go_ret
  exact ⟨_, rfl, HC.out.below (bNew _ _) (bNew _ _).size, bNew _ _⟩
set_option maxHeartbeats 1000000 in
theorem mleft_any (t : Tree) (p : List Int) (w : World) (ht : tk = t.kind ∧ tx = t.text ∧ tc = t.cols ∧ tn = t.kids.length) (hv : SliceR treeE w (Lt w.heap.size) t.kids (.slice A t.kids.length cap)) (htx : t.text.size ≤ maxLen) (hp : IntsR w (Lt w.heap.size) p (.slice Ap pn cp)) :
    Calls Tryz.prog 59 #[.agg #[.int .i64 tk, .string tx, .int .i64 tc, .slice A tn cap, .int .i64 kind, .string name, .int .i64 size, .int .i64 bw, .int .i64 bh, .int .i64 bd, .int .i64 bx, .int .i64 by_, .slice Ak kn ck, .int .i64 of_, .slice As sn cs, .slice Ap pn cp]] w (PosRes w (prevR t p)) := by
  obtain ⟨rfl, rfl, rfl, rfl⟩ := ht
  have hb0 : Below w.heap.size w (w.alloc (Obj.cells #[.int .i64 t.kind, .string t.text, .int .i64 t.cols, .slice A t.kids.length cap, .int .i64 kind, .string name, .int .i64 size, .int .i64 bw, .int .i64 bh, .int .i64 bd, .int .i64 bx, .int .i64 by_, .slice Ak kn ck, .int .i64 of_, .slice As sn cs, .slice Ap pn cp] 100)) := bNew _ _
  have HC := hid (prev_any t p A cap (.slice Ap pn cp) _ (hv.below hb0 hb0.size) htx (hp.below hb0 hb0.size))
  have HB0 := hid hb0
  generalize prevR t p = r at *
  obtain ⟨tk, tx, tc, ts⟩ := t
  simp only [Tree.kind, Tree.text, Tree.cols, Tree.kids] at *
  clear hv htx hp hb0
  go_enter Tryz.func59, Tryz.ntmps59
  go_wp2_with fail
  refine HC.out.mono ?_
  rintro e w1 ⟨hb1, v1, rfl, hi1⟩
  obtain ⟨A1, c1, rfl⟩ := hi1.form
  have HB1 := hid (HB0.out.trans (hb1.mono HB0.out.size))
  have HI1 := hid hi1
  clear hb1 hi1
  go_wp2_with fail
  go_ret2
  exact ⟨HB1.out, _, rfl, HI1.out.keep (fun _ _ => rfl) (fun k hk => ⟨Nat.le_trans HB0.out.size hk.1, hk.2⟩)⟩
set_option maxHeartbeats 1000000 in
theorem mright_any (t : Tree) (p : List Int) (w : World) (ht : tk = t.kind ∧ tx = t.text ∧ tc = t.cols ∧ tn = t.kids.length) (hv : SliceR treeE w (Lt w.heap.size) t.kids (.slice A t.kids.length cap)) (htx : t.text.size ≤ maxLen) (hp : IntsR w (Lt w.heap.size) p (.slice Ap pn cp)) :
    Calls Tryz.prog 60 #[.agg #[.int .i64 tk, .string tx, .int .i64 tc, .slice A tn cap, .int .i64 kind, .string name, .int .i64 size, .int .i64 bw, .int .i64 bh, .int .i64 bd, .int .i64 bx, .int .i64 by_, .slice Ak kn ck, .int .i64 of_, .slice As sn cs, .slice Ap pn cp]] w (PosRes w (nextR t p)) := by
  obtain ⟨rfl, rfl, rfl, rfl⟩ := ht
  have hb0 : Below w.heap.size w (w.alloc (Obj.cells #[.int .i64 t.kind, .string t.text, .int .i64 t.cols, .slice A t.kids.length cap, .int .i64 kind, .string name, .int .i64 size, .int .i64 bw, .int .i64 bh, .int .i64 bd, .int .i64 bx, .int .i64 by_, .slice Ak kn ck, .int .i64 of_, .slice As sn cs, .slice Ap pn cp] 100)) := bNew _ _
  have HC := hid (next_any t p A cap (.slice Ap pn cp) _ (hv.below hb0 hb0.size) htx (hp.below hb0 hb0.size))
  have HB0 := hid hb0
  generalize nextR t p = r at *
  obtain ⟨tk, tx, tc, ts⟩ := t
  simp only [Tree.kind, Tree.text, Tree.cols, Tree.kids] at *
  clear hv htx hp hb0
  go_enter Tryz.func60, Tryz.ntmps60
  go_wp2_with fail
  refine HC.out.mono ?_
  rintro e w1 ⟨hb1, v1, rfl, hi1⟩
  obtain ⟨A1, c1, rfl⟩ := hi1.form
  have HB1 := hid (HB0.out.trans (hb1.mono HB0.out.size))
  have HI1 := hid hi1
  clear hb1 hi1
  go_wp2_with fail
  go_ret2
  exact ⟨HB1.out, _, rfl, HI1.out.keep (fun _ _ => rfl) (fun k hk => ⟨Nat.le_trans HB0.out.size hk.1, hk.2⟩)⟩
set_option maxHeartbeats 2000000 in
theorem mhome_any (q : List Int) (x : Int) (w : World) (hp : IntsR w (Lt w.heap.size) (q ++ [x]) (.slice Ap pn cp)) (hpn : pn = q.length + 1) (hql : q.length ≤ 100000) :
    Calls Tryz.prog 61 #[.agg #[.int .i64 tk, .string tx, .int .i64 tc, .slice A tn cap, .int .i64 kind, .string name, .int .i64 size, .int .i64 bw, .int .i64 bh, .int .i64 bd, .int .i64 bx, .int .i64 by_, .slice Ak kn ck, .int .i64 of_, .slice As sn cs, .slice Ap pn cp]] w (PosRes w (q ++ [0], 0)) := by
  generalize hW0 : w.alloc (Obj.cells #[.int .i64 tk, .string tx, .int .i64 tc, .slice A tn cap, .int .i64 kind, .string name, .int .i64 size, .int .i64 bw, .int .i64 bh, .int .i64 bd, .int .i64 bx, .int .i64 by_, .slice Ak kn ck, .int .i64 of_, .slice As sn cs, .slice Ap pn cp] 100) = W0
  have hB0 : Below w.heap.size w W0 := by rw [← hW0]; exact bNew _ _
  have hM : MovBox W0 w.heap.size #[.int .i64 tk, .string tx, .int .i64 tc, .slice A tn cap, .int .i64 kind, .string name, .int .i64 size, .int .i64 bw, .int .i64 bh, .int .i64 bd, .int .i64 bx, .int .i64 by_, .slice Ak kn ck, .int .i64 of_, .slice As sn cs, .slice Ap pn cp] := by rw [← hW0]; exact MovBox.new _ _ _ _ rfl
  have HPA : Hid (Calls Tryz.prog 96 #[.agg #[.int .i64 tk, .string tx, .int .i64 tc, .slice A tn cap, .int .i64 kind, .string name, .int .i64 size, .int .i64 bw, .int .i64 bh, .int .i64 bd, .int .i64 bx, .int .i64 by_, .slice Ak kn ck, .int .i64 of_, .slice As sn cs, .slice Ap pn cp]] W0 (IntsPost W0 q)) := mpath_any tk tx tc tn cap A Ak As Ap kind size bw bh bd bx by_ of_ name kn ck sn cs pn cp q x W0 (hp.below hB0 hB0.size) hpn
  have HB0 := hid hB0
  have f0 := hM 0 _ rfl
  have f1 := hM 1 _ rfl
  have f2 := hM 2 _ rfl
  have f3 := hM 3 _ rfl
  have f4 := hM 4 _ rfl
  have f5 := hM 5 _ rfl
  have f6 := hM 6 _ rfl
  have f7 := hM 7 _ rfl
  have f8 := hM 8 _ rfl
  have f9 := hM 9 _ rfl
  have f10 := hM 10 _ rfl
  have f11 := hM 11 _ rfl
  have f12 := hM 12 _ rfl
  have f13 := hM 13 _ rfl
  have f14 := hM 14 _ rfl
  have f15 := hM 15 _ rfl
  have HQL := hid hql
  clear hp hpn hB0 hM hql
  go_enter Tryz.func61, Tryz.ntmps61
  go_wp2_with fail
  clear hW0
  refine HPA.out.mono ?_
  rintro e w1 ⟨v1, rfl, hi1, hb1⟩
  obtain ⟨A1, c1, rfl⟩ := hi1.form
  have HB1 := hid (HB0.out.trans (hb1.mono HB0.out.size))
  have hbi : Below w1.heap.size w1 (w1.alloc (.cells #[.int .i64 0] 3)) := bNew _ _
  have HCC := hid (concat_any [q, [0]] _ _ (rows_two (hi1.below hbi hbi.size) (ints_lit w1 [0] (by simp [In64]) (by unfold Lt; simp) _ 1 rfl rfl (by simp [maxLen]) _ _ rfl) (w1.heap.size + 1) (by simp) 26) (by have := HQL.out; simp; omega))
  have HB2 : Hid (Below w.heap.size w ((w1.alloc (.cells #[.int .i64 0] 3)).alloc (.cells #[.slice A1 q.length c1, .slice (some ⟨w1.heap.size, 0, none⟩) 1 1] 26))) := (HB1.out.trans (hbi.mono HB1.out.size)).trans ((bNew _ _).mono (Nat.le_trans HB1.out.size hbi.size))
  have HF : Hid ([q, [(0 : Int)]].flatten = q ++ [0]) := by show _ = _; simp
  rw [HF.out] at HCC
  clear hi1 hb1 hbi HF f0 f1 f2 f3 f4 f5 f6 f7 f8 f9 f10 f11 f12 f13 f14 f15
  go_wp2_with fail
  refine HCC.out.mono ?_
  rintro e w2 ⟨v2, rfl, ho2, hb2⟩
  obtain ⟨A2, c2, rfl⟩ := (ho2.ints (S := Lt w2.heap.size) (fun _ _ h => h)).form
  have HB3 := hid (HB2.out.trans (hb2.mono HB2.out.size))
  have HI2 := hid (ho2.ints (S := fun k => w.heap.size ≤ k ∧ k < w2.heap.size) (fun k h1 h2 => ⟨Nat.le_trans HB2.out.size h1, h2⟩))
  clear hb2 ho2
  go_wp2_with fail
  go_ret2
  have hi := HI2.out
  rw [List.length_append] at hi
  exact ⟨HB3.out, _, rfl, hi⟩
set_option maxHeartbeats 4000000 in
theorem mvert_none (t : Tree) (b : Bx) (er sign : Int) (w : World) (ht : tk = t.kind ∧ tx = t.text ∧ tc = t.cols ∧ tn = t.kids.length) (hbx : kind = b.f.kind ∧ name = b.f.name ∧ size = b.f.size ∧ bw = b.f.w ∧ bh = b.f.h ∧ bd = b.f.d ∧ bx = b.f.x ∧ by_ = b.f.y ∧ kn = b.kids.length ∧ of_ = b.f.of_ ∧ sn = b.f.src.length) (her : er ≠ 0)
    (HC : ∀ W, Below w.heap.size w W → Calls Tryz.prog 17 #[nodeV t A cap, boxV b Ak As ck cs] W (NoneRes W er)) :
    Calls Tryz.prog 98 #[.agg #[.int .i64 tk, .string tx, .int .i64 tc, .slice A tn cap, .int .i64 kind, .string name, .int .i64 size, .int .i64 bw, .int .i64 bh, .int .i64 bd, .int .i64 bx, .int .i64 by_, .slice Ak kn ck, .int .i64 of_, .slice As sn cs, .slice Ap pn cp], .int .i64 sign] w (NoneRes w er) := by
  have i0 : (er != 0) = true := by simpa using her
  have HCC := hid (HC _ (bNew w (Obj.cells #[.int .i64 tk, .string tx, .int .i64 tc, .slice A tn cap, .int .i64 kind, .string name, .int .i64 size, .int .i64 bw, .int .i64 bh, .int .i64 bd, .int .i64 bx, .int .i64 by_, .slice Ak kn ck, .int .i64 of_, .slice As sn cs, .slice Ap pn cp] 100)))
  have HB0 : Hid (Below w.heap.size w (w.alloc (Obj.cells #[.int .i64 tk, .string tx, .int .i64 tc, .slice A tn cap, .int .i64 kind, .string name, .int .i64 size, .int .i64 bw, .int .i64 bh, .int .i64 bd, .int .i64 bx, .int .i64 by_, .slice Ak kn ck, .int .i64 of_, .slice As sn cs, .slice Ap pn cp] 100))) := bNew _ _
  obtain ⟨rfl, rfl, rfl, rfl⟩ := ht
  obtain ⟨rfl, rfl, rfl, rfl, rfl, rfl, rfl, rfl, rfl, rfl, rfl⟩ := hbx
  simp only [nodeV, boxV, boxC] at *
  clear HC her
  go_enter Tryz.func98, Tryz.ntmps98
  go_wp2_with fail
  refine HCC.out.mono ?_
  rintro e w1 ⟨rfl, hb1⟩
  have HB1 := hid (HB0.out.trans (hb1.mono HB0.out.size))
  clear hb1
  go_wp2_with fail
  go_ret2
  exact ⟨rfl, HB1.out⟩
set_option maxHeartbeats 4000000 in
theorem mup_none (t : Tree) (b : Bx) (er : Int) (w : World) (ht : tk = t.kind ∧ tx = t.text ∧ tc = t.cols ∧ tn = t.kids.length) (hbx : kind = b.f.kind ∧ name = b.f.name ∧ size = b.f.size ∧ bw = b.f.w ∧ bh = b.f.h ∧ bd = b.f.d ∧ bx = b.f.x ∧ by_ = b.f.y ∧ kn = b.kids.length ∧ of_ = b.f.of_ ∧ sn = b.f.src.length) (her : er ≠ 0)
    (HC : ∀ W, Below w.heap.size w W → Calls Tryz.prog 17 #[nodeV t A cap, boxV b Ak As ck cs] W (NoneRes W er)) :
    Calls Tryz.prog 63 #[.agg #[.int .i64 tk, .string tx, .int .i64 tc, .slice A tn cap, .int .i64 kind, .string name, .int .i64 size, .int .i64 bw, .int .i64 bh, .int .i64 bd, .int .i64 bx, .int .i64 by_, .slice Ak kn ck, .int .i64 of_, .slice As sn cs, .slice Ap pn cp]] w (NoneRes w er) := by
  have HB0 : Hid (Below w.heap.size w (w.alloc (Obj.cells #[.int .i64 tk, .string tx, .int .i64 tc, .slice A tn cap, .int .i64 kind, .string name, .int .i64 size, .int .i64 bw, .int .i64 bh, .int .i64 bd, .int .i64 bx, .int .i64 by_, .slice Ak kn ck, .int .i64 of_, .slice As sn cs, .slice Ap pn cp] 100))) := bNew _ _
  have HVV := hid (mvert_none tk tx tc tn cap A Ak As Ap kind size bw bh bd bx by_ of_ name kn ck sn cs pn cp t b er 1 (w.alloc (Obj.cells #[.int .i64 tk, .string tx, .int .i64 tc, .slice A tn cap, .int .i64 kind, .string name, .int .i64 size, .int .i64 bw, .int .i64 bh, .int .i64 bd, .int .i64 bx, .int .i64 by_, .slice Ak kn ck, .int .i64 of_, .slice As sn cs, .slice Ap pn cp] 100)) ht hbx her (fun W hW => HC W (HB0.out.trans (hW.mono HB0.out.size))))
  clear ht hbx her HC
  go_enter Tryz.func63, Tryz.ntmps63
  go_wp2_with fail
  refine HVV.out.mono ?_
  rintro e w1 ⟨rfl, hb1⟩
  have HB1 := hid (HB0.out.trans (hb1.mono HB0.out.size))
  clear hb1
  go_wp2_with fail
  go_ret2
  exact ⟨rfl, HB1.out⟩
end
end Go.Proofs.YtmahiejfniaahaaGreatDoor
