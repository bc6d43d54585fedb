/- Texts put together: CarE, CarF, CarG. -/
import Derived.Test.YtmahiejfniaahaaGreatDoorGA
import Derived.Test.YtmahiejfniaahaaGreatDoorHH
import Derived.Test.YtmahiejfniaahaaGreatDoorHO
import Derived.Test.YtmahiejfniaahaaGreatDoorGD
import Derived.Maps.Own
import Derived.Lib.BufferRead
import Derived.Laws.EntriesVeiled
set_option linter.unusedVariables false
set_option linter.unusedSimpArgs false
set_option maxRecDepth 100000
namespace Go.Proofs.YtmahiejfniaahaaGreatDoor
open Go.RowKit
abbrev nodeV (t : Tree) (A : Option Addr) (cap : Nat) : Value := .agg #[.int .i64 t.kind, .string t.text, .int .i64 t.cols, .slice A t.kids.length cap]
abbrev boxV (b : Bx) (Ak As : Option Addr) (ck cs : Nat) : Value := .agg (boxC b.f (.slice Ak b.kids.length ck) (.slice As b.f.src.length cs))
structure BoxIn (w : World) (b : Bx) (Ak As : Option Addr) (ck cs : Nat) : Prop where
  ok : b.f.Ok
  src : IntsR w (Lt w.heap.size) b.f.src (.slice As b.f.src.length cs)
  kids : BoxesS w (Lt w.heap.size) b.kids (.slice Ak b.kids.length ck)
theorem BoxIn.below {w w' : World} {b : Bx} {Ak As : Option Addr} {ck cs : Nat} (h : BoxIn w b Ak As ck cs) (hb : Below w.heap.size w w') : BoxIn w' b Ak As ck cs := ⟨h.ok, h.src.below hb hb.size, h.kids.below hb hb.size⟩
set_option maxHeartbeats 2000000 in
theorem cvalid_any (t : Tree) (b : Bx) (A Ak As : Option Addr) (cap ck cs : Nat) (w : World) (hv : SliceR treeE w (Lt w.heap.size) t.kids (.slice A t.kids.length cap)) (htx : t.text.size ≤ maxLen) (hb : BoxIn w b Ak As ck cs) :
    Calls Tryz.prog 37 #[nodeV t A cap, boxV b Ak As ck cs] w fun e w' => e = .returned (.bool (validS t && validB b)) ∧ Below w.heap.size w w' := by
  have hb0 : Below w.heap.size w ((w.alloc (Obj.cells #[.int .i64 t.kind, .string t.text, .int .i64 t.cols, .slice A t.kids.length cap] 24)).alloc (Obj.cells (boxC b.f (.slice Ak b.kids.length ck) (.slice As b.f.src.length cs)) 28)) := Below.alloc (below_allocR _ _) (below_allocR _ _).size _
  have hbox : ∀ W, Below ((w.alloc (Obj.cells #[.int .i64 t.kind, .string t.text, .int .i64 t.cols, .slice A t.kids.length cap] 24)).alloc (Obj.cells (boxC b.f (.slice Ak b.kids.length ck) (.slice As b.f.src.length cs)) 28)).heap.size ((w.alloc (Obj.cells #[.int .i64 t.kind, .string t.text, .int .i64 t.cols, .slice A t.kids.length cap] 24)).alloc (Obj.cells (boxC b.f (.slice Ak b.kids.length ck) (.slice As b.f.src.length cs)) 28)) W → Box11 W (w.heap.size + 1) 0 b.f (.slice Ak b.kids.length ck) (.slice As b.f.src.length cs) := fun W hW => by
    have h := Box11.new (w.alloc (Obj.cells #[.int .i64 t.kind, .string t.text, .int .i64 t.cols, .slice A t.kids.length cap] 24)) b.f (.slice Ak b.kids.length ck) (.slice As b.f.src.length cs) 28
    have hz : (w.alloc (Obj.cells #[.int .i64 t.kind, .string t.text, .int .i64 t.cols, .slice A t.kids.length cap] 24)).heap.size = w.heap.size + 1 := by simp
    rw [hz] at h
    exact h.below hW (by simp)
  have HB0 := hid hb0
  have CN : Hid (∀ W, Below w.heap.size w W → Calls Tryz.prog 57 #[nodeV t A cap] W fun e w' => e = .returned (.bool (validS t)) ∧ Below W.heap.size W w') := fun W hW => nValid_any t A cap W (hv.below hW hW.size) htx
  have CB : Hid (∀ W, Below w.heap.size w W → Calls Tryz.prog 58 #[boxV b Ak As ck cs] W fun e w' => e = .returned (.bool (validB b)) ∧ Below W.heap.size W w') := fun W hW => bValid_any b Ak As ck cs W hb.ok (hb.below hW).src (hb.below hW).kids
  generalize validS t = b1 at *
  generalize validB b = b2 at *
  have HBX := hid hbox
  obtain ⟨tk, tx, tc, ts⟩ := t
  obtain ⟨f, ks⟩ := b
  obtain ⟨kind, name, size, bw, bh, bd, bx, by_, of_, src⟩ := f
  simp only [Tree.kind, Tree.text, Tree.cols, Tree.kids, Bx.f, Bx.kids, boxC] at *
  clear hv htx hb hb0 hbox
  cases b1 with
  | false =>
    go_enter Tryz.func37, Tryz.ntmps37
    go_wp2_with fail
    refine (CN.out _ HB0.out).mono ?_
    rintro e w1 ⟨rfl, hb1⟩
    have HB1 := hid (HB0.out.trans (hb1.mono HB0.out.size))
    clear hb1
    go_wp2_with fail
    go_ret
    exact ⟨rfl, HB1.out⟩
  | true =>
    go_enter Tryz.func37, Tryz.ntmps37
    go_wp2_with fail
    refine (CN.out _ HB0.out).mono ?_
    rintro e w1 ⟨rfl, hb1⟩
    obtain ⟨c0, c1, c2, c3, c4, c5, c6, c7, c8, c9, c10⟩ := HBX.out w1 hb1
    simp only [Nat.zero_add] at c1 c2 c3 c4 c5 c6 c7 c8 c9 c10
    have HB1 := hid (HB0.out.trans (hb1.mono HB0.out.size))
    clear hb1
    go_wp2_with fail
    refine (CB.out _ HB1.out).mono ?_
    rintro e w2 ⟨rfl, hb2⟩
    have HB2 := hid (HB1.out.trans (hb2.mono HB1.out.size))
    clear hb2
    go_wp2_with fail
    go_ret
    exact ⟨rfl, HB2.out⟩
theorem crow_nil (g : Nat) (Ap A : Option Addr) (cp n cap : Nat) (w : World) (h3 : w.cell? ⟨g, 3, none⟩ = some (.slice A n cap)) :
    Calls Tryz.prog 77 #[.pointer (some ⟨g, 0, none⟩), .slice Ap 0 cp] w fun e w' => e = .returned (.slice A n cap) ∧ w = w' := by
  go_enter Tryz.func77, Tryz.ntmps77
  go_wp2_with fail
  go_loop [0, 1] (fun a b => a = .pointer (some ⟨g, 0, none⟩) ∧ b = .slice Ap 0 cp) (fun _ _ => 0)
  case atStart => exact ⟨rfl, rfl⟩
  case round =>
    obtain ⟨rfl, rfl⟩ := hrel
    go_wp2_with fail
    go_ret
    exact ⟨rfl, rfl⟩
theorem key_nil (Ap : Option Addr) (cp : Nat) (w : World) :
    Calls Tryz.prog 78 #[.slice Ap 0 cp] w fun e w' => e = .returned (.string ⟨#[]⟩) ∧ w = w' := by
  have hcv := Lib.run_convert_nil_bytes w _ _ _ 0 Tryz.underlying145 (by kernel_rfl) Tryz.underlying9
  go_enter Tryz.func78, Tryz.ntmps78
  go_wp2_with fail
  go_loop [3, 8] (fun a b => a = .slice none 0 0 ∧ b = .int .i64 0) (fun _ _ => 0)
  case atStart => exact ⟨rfl, rfl⟩
  case round =>
    obtain ⟨rfl, rfl⟩ := hrel
    go_wp2_with fail
    go_ret
    exact ⟨rfl, rfl⟩
def Unit_ (w : World) (e : Ending) (w' : World) : Prop := (∃ v, e = .returned v) ∧ w = w'
theorem visit_leaf (g o : Nat) (f : BxF) (Ak : Option Addr) (ck : Nat) (vs : Value) (x y : Int) (q1 q2 : Addr) (w : World) (hb : Box11 w g o f (.slice Ak 0 ck) vs) (hof : f.of_ ≠ 1) :
    Calls Tryz.prog 81 #[.pointer (some ⟨g, o, none⟩), .int .i64 x, .int .i64 y, .pointer (some q1), .pointer (some q2)] w (Unit_ w) := by
  have c8 := hb.c8
  have c9 := hb.c9
  have i0 : (f.of_ == 1) = false := by simpa using hof
  generalize f.of_ = q at *
  clear hb hof
  go_enter Tryz.func81, Tryz.ntmps81
  go_wp2_with fail
  go_loop [52] (fun a => a = .int .i64 0) (fun _ => 0)
  case atStart => exact rfl
  case round =>
    obtain rfl := hrel
    go_wp2_with fail
    refine bodyPost_ret (v := .tuple #[]) (by simp [results, Tryz.results81, go_sem]) rfl ?_
    exact ⟨⟨_, rfl⟩, rfl⟩
end Go.Proofs.YtmahiejfniaahaaGreatDoor
set_option linter.unusedVariables false
set_option linter.unusedSimpArgs false
set_option maxRecDepth 100000
namespace Go.Proofs.YtmahiejfniaahaaGreatDoor
open Go.RowKit
def NoMap (w : World) (e : Ending) (w' : World) : Prop := ∃ bm, e = .returned (.map (some bm)) ∧ w.heap.size ≤ bm ∧ w'.heap[bm]? = some (.map #[] 0) ∧ Below w.heap.size w w'
set_option maxHeartbeats 1000000 in
theorem lines_leaf (g : Nat) (f : BxF) (Ak : Option Addr) (ck : Nat) (vs : Value) (w : World) (hb : Box11 w g 0 f (.slice Ak 0 ck) vs) (hof : f.of_ ≠ 1) :
    Calls Tryz.prog 40 #[.pointer (some ⟨g, 0, none⟩)] w (NoMap w) := by
  have hg := cIn hb.c0
  simp only at hg
  have HV : Hid (∀ W q1 q2, Below w.heap.size w W → Calls Tryz.prog 81 #[.pointer (some ⟨g, 0, none⟩), .int .i64 0, .int .i64 0, .pointer (some q1), .pointer (some q2)] W (Unit_ W)) := fun W q1 q2 hW => visit_leaf g 0 f Ak ck vs 0 0 q1 q2 W (hb.below hW hg) hof
  have hz : (w.alloc (.map #[] 0)).heap.size = w.heap.size + 1 := by simp
  have HX : Hid (∀ o2 o3, Below (w.heap.size + 1) (w.alloc (.map #[] 0)) (((w.alloc (.map #[] 0)).alloc o2).alloc o3)) := fun o2 o3 => by
    have h := bAl (bNew (w.alloc (.map #[] 0)) o2) o3
    rw [hz] at h
    exact h
  have HW : Hid (∀ o2 o3, Below w.heap.size w (((w.alloc (.map #[] 0)).alloc o2).alloc o3)) := fun o2 o3 => (bNew w _).trans ((HX.out o2 o3).mono (Nat.le_succ _))
  have hmm := @run_makeMap Tryz.prog
  clear hb hof hg hz
  go_enter Tryz.func40, Tryz.ntmps40
  go_wp2_with fail
  refine (HV.out _ _ _ (HW.out _ _)).mono ?_
  rintro e w1 ⟨⟨v, rfl⟩, rfl⟩
  go_wp2_with fail
  go_ret
  exact ⟨_, rfl, Nat.le_refl _, (heapOld (HX.out _ _) (Nat.lt_succ_self _)).trans (heapNew w _ _ rfl), HW.out _ _⟩
set_option maxHeartbeats 2000000 in
theorem place_none (g bm : Nat) (A Ap : Option Addr) (n cap cp : Nat) (w : World) (h3 : w.cell? ⟨g, 3, none⟩ = some (.slice A n cap)) (hm : w.heap[bm]? = some (.map #[] 0)) (hbm : bm < w.heap.size) (hcp : 1 ≤ cp) (hn : n ≤ 9223372036854775807) :
    Calls Tryz.prog 39 #[.pointer (some ⟨g, 0, none⟩), .map (some bm), .slice Ap 1 cp] w fun e w' => e = .returned (.tuple #[.agg #[.slice none 0 0, .int .i64 0, .int .i64 0, .int .i64 0], .bool false]) ∧ Below w.heap.size w w' := by
  have hg := cIn h3
  simp only at hg
  have hb0 : Below w.heap.size w (w.alloc (.cells #[.slice none 0 0, .int .i64 0, .int .i64 0, .int .i64 0] 32)) := bNew _ _
  obtain ⟨A1, hsl, hcut⟩ := cut_h intE Tryz.underlying26 size_int Ap 1 cp (0 : Int) 0 rfl (Nat.zero_le _) hcp
  have HR : Hid (Calls Tryz.prog 77 #[.pointer (some ⟨g, 0, none⟩), .slice A1 0 cp] (w.alloc (.cells #[.slice none 0 0, .int .i64 0, .int .i64 0, .int .i64 0] 32)) fun e w' => e = .returned (.slice A n cap) ∧ (w.alloc (.cells #[.slice none 0 0, .int .i64 0, .int .i64 0, .int .i64 0] 32)) = w') := crow_nil g A1 A cp n cap _ ((hb0.cell (p := ⟨g, 3, none⟩) hg).trans h3)
  have HK : Hid (Calls Tryz.prog 78 #[.slice A1 0 cp] (w.alloc (.cells #[.slice none 0 0, .int .i64 0, .int .i64 0, .int .i64 0] 32)) fun e w' => e = .returned (.string ⟨#[]⟩) ∧ (w.alloc (.cells #[.slice none 0 0, .int .i64 0, .int .i64 0, .int .i64 0] 32)) = w') := key_nil A1 cp _
  have hlk : (Instr.lookup 83 (.map (some bm)) (.string ⟨#[]⟩) true).run Tryz.prog (w.alloc (.cells #[.slice none 0 0, .int .i64 0, .int .i64 0, .int .i64 0] 32)) = .ok (.tuple #[.agg #[.pointer none, .int .i64 0, .int .i64 0, .int .i64 0], .bool false]) (w.alloc (.cells #[.slice none 0 0, .int .i64 0, .int .i64 0, .int .i64 0] 32)) := by
    have hm' := (heapOld hb0 hbm).trans hm
    rcases Maps.fit_look (H := Unit) (R := fun _ => none) true (Go.Maps.string_keyed Tryz.underlying9) Tryz.underlying83 (z := .agg #[.pointer none, .int .i64 0, .int .i64 0, .int .i64 0]) (by kernel_rfl) hm' ⟨by simp, Go.MapKept.stamped_empty 0, by simp⟩ (Go.WideMaps.keyOf_string_mk Tryz.underlying9 (by decide : (⟨#[]⟩ : ByteArray).size ≤ maxLen)) with ⟨hrun, _⟩ | ⟨e0, y, he, _⟩
    · exact hrun
    · simp at he
  clear hcut h3 hm hbm hcp hg hb0
  go_enter Tryz.func39, Tryz.ntmps39
  go_wp2_with fail
  refine HR.out.mono ?_
  rintro e w1 ⟨rfl, rfl⟩
  go_wp2_with fail
  refine HK.out.mono ?_
  rintro e w1 ⟨rfl, rfl⟩
  go_wp2_with fail
  refine bodyPost_ret (v := .tuple #[.agg #[.slice none 0 0, .int .i64 0, .int .i64 0, .int .i64 0], .bool false]) (by simp [results, Tryz.results39, go_sem]) rfl ⟨rfl, bAl (bNew _ _) _⟩
end Go.Proofs.YtmahiejfniaahaaGreatDoor
set_option linter.unusedVariables false
set_option linter.unusedSimpArgs false
set_option maxRecDepth 100000
namespace Go.Proofs.YtmahiejfniaahaaGreatDoor
open Go.RowKit
def NoneRes (w : World) (er : Int) (e : Ending) (w' : World) : Prop := e = .returned (.tuple #[.slice none 0 0, .int .i64 er]) ∧ Below w.heap.size w w'
set_option maxHeartbeats 4000000 in
theorem call_leaf (t : Tree) (b : Bx) (A Ak As : Option Addr) (cap ck cs : Nat) (w : World) (hv : SliceR treeE w (Lt w.heap.size) t.kids (.slice A t.kids.length cap)) (htx : t.text.size ≤ maxLen) (hb : BoxIn w b Ak As ck cs) (hk : b.kids = []) (hof : b.f.of_ ≠ 1) (hvb : validB b = true) (hvt : validS t = true) :
    Calls Tryz.prog 17 #[nodeV t A cap, boxV b Ak As ck cs] w (NoneRes w 8) := by
  obtain ⟨f, ks⟩ := b
  simp only [Bx.kids] at hk
  subst hk
  have hcnt := (valid_count hvt).1
  have CV : Hid (∀ W, Below w.heap.size w W → Calls Tryz.prog 37 #[nodeV t A cap, boxV (.mk f []) Ak As ck cs] W fun e w' => e = .returned (.bool true) ∧ Below W.heap.size W w') := fun W hW => by
    have h := cvalid_any t (.mk f []) A Ak As cap ck cs W (hv.below hW hW.size) htx (hb.below hW)
    rw [hvb, hvt] at h
    exact h
  have CP : Hid (∀ W, Below w.heap.size w W → Calls Tryz.prog 44 #[nodeV t A cap] W (AllRes W true (allS [] t))) := fun W hW => by
    have h := pall_any t A cap W (hv.below hW hW.size) htx
    rw [hvt] at h
    exact h
  have hL0 : 0 < (allS [] t).length := allS_pos t
  have hLL := allS_le t (by omega)
  have hL1 : (allS [] t)[0].length = 1 := by rw [allS_at_first]; rfl
  have hkl : t.kids.length ≤ 9223372036854775807 := by have := hv.lens; unfold maxLen at this; exact Nat.le_trans this (by omega)
  generalize hW0 : (w.alloc (Obj.cells #[.int .i64 t.kind, .string t.text, .int .i64 t.cols, .slice A t.kids.length cap] 24)).alloc (Obj.cells (boxC f (.slice Ak 0 ck) (.slice As f.src.length cs)) 28) = W0
  have hz0 : W0.heap.size = w.heap.size + 1 + 1 := by rw [← hW0]; simp
  have hB0 : Below w.heap.size w W0 := by rw [← hW0]; exact bAl (bNew _ _) _
  have hb4 : W0.cell? ⟨w.heap.size, 0, none⟩ = some (.int .i64 t.kind) ∧ W0.cell? ⟨w.heap.size, 1, none⟩ = some (.string t.text) ∧ W0.cell? ⟨w.heap.size, 2, none⟩ = some (.int .i64 t.cols) ∧ W0.cell? ⟨w.heap.size, 3, none⟩ = some (.slice A t.kids.length cap) := by
    rw [← hW0]
    have hb := bNew (w.alloc (Obj.cells #[.int .i64 t.kind, .string t.text, .int .i64 t.cols, .slice A t.kids.length cap] 24)) (Obj.cells (boxC f (.slice Ak 0 ck) (.slice As f.src.length cs)) 28)
    refine ⟨?_, ?_, ?_, ?_⟩
    all_goals exact ((bcell hb).1 _ _ (by simp)).trans (cNew _ _ _ _ _ rfl)
  have hb11 : Box11 W0 (w.heap.size + 1) 0 f (.slice Ak 0 ck) (.slice As f.src.length cs) := by
    rw [← hW0]
    have h := Box11.new (w.alloc (Obj.cells #[.int .i64 t.kind, .string t.text, .int .i64 t.cols, .slice A t.kids.length cap] 24)) f (.slice Ak 0 ck) (.slice As f.src.length cs) 28
    have hz : (w.alloc (Obj.cells #[.int .i64 t.kind, .string t.text, .int .i64 t.cols, .slice A t.kids.length cap] 24)).heap.size = w.heap.size + 1 := by simp
    rw [hz] at h
    exact h
  have KB : Hid (∀ W, Below W0.heap.size W0 W → (W.cell? ⟨w.heap.size, 0, none⟩ = some (.int .i64 t.kind) ∧ W.cell? ⟨w.heap.size, 1, none⟩ = some (.string t.text) ∧ W.cell? ⟨w.heap.size, 2, none⟩ = some (.int .i64 t.cols) ∧ W.cell? ⟨w.heap.size, 3, none⟩ = some (.slice A t.kids.length cap)) ∧ Box11 W (w.heap.size + 1) 0 f (.slice Ak 0 ck) (.slice As f.src.length cs) ∧ Below w.heap.size w W) := fun W hW => by
    have hc := (bcell hW).1
    exact ⟨⟨(hc _ _ (by omega)).trans hb4.1, (hc _ _ (by omega)).trans hb4.2.1, (hc _ _ (by omega)).trans hb4.2.2.1, (hc _ _ (by omega)).trans hb4.2.2.2⟩, hb11.below hW (by omega), hB0.trans (hW.mono hB0.size)⟩
  obtain ⟨⟨m0, m1, m2, m3⟩, ⟨c0, c1, c2, c3, c4, c5, c6, c7, c8, c9, c10⟩, hbw⟩ := KB.out W0 (Below.refl _ _)
  simp only [Nat.zero_add] at c1 c2 c3 c4 c5 c6 c7 c8 c9 c10
  have HW0 := hid hbw
  have HOF := hid hof
  have HL1 := hid hL1
  generalize hLL0 : allS [] t = L at *
  obtain ⟨tk, tx, tc, ts⟩ := t
  obtain ⟨kind, name, size, bw, bh, bd, bx, by_, of_, src⟩ := f
  simp only [nodeV, boxV, Tree.kind, Tree.text, Tree.cols, Tree.kids, Bx.f, Bx.kids, boxC, List.length_nil] at *
  clear hv htx hb hof hvb hvt hcnt hz0 hB0 hb4 hb11 hbw hL1 hLL0
  go_enter Tryz.func17, Tryz.ntmps17
  go_wp2_with fail
  refine (CV.out _ HW0.out).mono ?_
  rintro e w1 ⟨rfl, hb1⟩
  obtain ⟨⟨n0, n1, n2, n3⟩, h11, hbw⟩ := KB.out w1 hb1
  have HT1 := hid hb1
  have HW1 := hid hbw
  clear hb1 hbw h11 m0 m1 m2 m3 c0 c1 c2 c3 c4 c5 c6 c7 c8 c9 c10
  go_wp2_with fail
  refine (CP.out _ HW1.out).mono ?_
  rintro e w2 ⟨hb2, (⟨h, _⟩ | ⟨_, v2, rfl, hr2⟩)⟩
  case inl => cases h
  obtain ⟨A2, c2, rfl⟩ := hr2.rows.form
  have HT2 := hid (bCl HT1.out hb2)
  have HR2 := hid hr2.rowsLt
  clear hb2 hr2 n0 n1 n2 n3
  go_wp2_with fail
  refine (lines_leaf (w.heap.size + 1) _ Ak ck _ w2 (KB.out w2 HT2.out).2.1 HOF.out).mono ?_
  rintro e w3 ⟨bm, rfl, hbm1, hbm2, hb3⟩
  have HT3 := hid (bCl HT2.out hb3)
  have HM3 := hid hbm2
  have hbmlt : bm < w3.heap.size := (Array.getElem?_eq_some_iff.1 hbm2).1
  have HBM := hid hbmlt
  have HR3 := hid (HR2.out.below hb3 hb3.size)
  clear hb3 hbm1 hbm2 hbmlt
  have i5 : decide ((0 : Int) < (L.length : Int)) = true := by rw [decide_eq_true_eq]; omega
  have i7 : (0 : Int) < (L.length : Int) := by omega
  go_wp2_with fail
  go_loop [9, 29] (fun v i => v = .slice none 0 0 ∧ i = .int .i64 0) (fun _ i => 0)
  case atStart => exact ⟨rfl, rfl⟩
  case round =>
    obtain ⟨rfl, rfl⟩ := hrel
    obtain ⟨_, _, rs, hq, _, _, hrd, hls⟩ := HR3.out
    cases hq
    obtain ⟨g, o, A3, c3, rs3, rfl, hg, q0, h5, h6, h7, h8⟩ := rows_at hrd hls hL0
    rw [HL1.out] at q0 h5
    simp only [Nat.add_zero] at q0
    have CPL := hid (place_none w.heap.size bm A A3 ts.length cap c3 w3 (KB.out w3 HT3.out).1.2.2.2 HM3.out HBM.out h5 hkl)
    clear hrd hls h5 h6 h7 h8
    go_wp2_with fail
    refine CPL.out.mono ?_
    rintro e w4 ⟨rfl, hb4⟩
    have HT4 := hid (bCl HT3.out hb4)
    clear hb4 q0
    go_wp2_with fail
    go_ret2
    exact ⟨rfl, bAl (KB.out w4 HT4.out).2.2 _⟩
end Go.Proofs.YtmahiejfniaahaaGreatDoor
