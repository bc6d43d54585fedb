/- Texts put together: AplA, ScrP, FewOps, PScr. -/
import Derived.Test.YteckkamlaibjbaaAplv
import Derived.Test.YteckkamlaibjbaaFew13
import Derived.Test.YteckkamlaibjbaaGF
import Derived.Test.YteckkamlaibjbaaGH
import Derived.Test.YteckkamlaibjbaaMapAll
/- ref12.ApplyAll. -/
set_option linter.unusedVariables false
set_option linter.unusedSimpArgs false
set_option maxRecDepth 100000
namespace Go.Proofs.Yteckkamlaibjbaa
open Go.RowKit

/-- One operation after the other. -/
def goS : Tree → List OpD → Tree × Int
  | t, [] => (t, 0)
  | t, op :: ops => if (applyS t op).2 ≠ 0 then (zeroT, (applyS t op).2) else goS (applyS t op).1 ops
def applyAllS (t : Tree) (ops : List OpD) : Tree × Int := if validS t = false then (zeroT, 1) else goS t ops
def ApplyAllP (w : World) (r : Tree × Int) (e : Ending) (w' : World) : Prop :=
  ∃ v i, e = .returned (.tuple #[.agg #[.int .i64 r.1.kind, .string r.1.text, .int .i64 r.1.cols, v], .int .i64 i, .int .i64 r.2]) ∧ SliceR treeE w' (Lt w'.heap.size) r.1.kids v ∧ Below w.heap.size w w'
theorem apply_good {t : Tree} {op : OpD} (hok : NodeOk t) (h : (applyS t op).2 = 0) : validS (applyS t op).1 = true ∧ NodeOk (applyS t op).1 := by
  unfold applyS at h ⊢
  split at h
  · simp at h
  rename_i h1
  rw [if_neg h1]
  split at h
  · simp at h
  rename_i h2
  rw [if_neg h2]
  split at h
  · rename_i h3; exact absurd h h3
  rename_i h3
  rw [if_neg h3]
  split at h
  · rename_i h4; exact absurd h h4
  rename_i h4
  rw [if_neg h4]
  split at h
  · simp at h
  rename_i h5
  rw [if_neg h5]
  exact ⟨by simpa using h5, putS_ok t op.row _ hok⟩
theorem op_text {w : World} {S : Nat → Prop} {ops : List OpD} {cs : List Value} (h4 : ListR opE w S ops cs) {k : Nat} (hk : k < ops.length) : ops[k].text.size ≤ maxLen := by
  obtain ⟨c, _, hR, _⟩ := h4.at_ hk
  obtain ⟨vr, vn, rfl, h1, h2, h3', h4', h5, h6, h7, h8⟩ := hR
  exact h6

theorem ApplyP.parts {S : Nat → Prop} {W w' : World} {k : Int} {x : ByteArray} {c : Int} {ts : List Tree} {er : Int} {e : Ending} (h : ApplyP S W.drew (.mk k x c ts, er) e w') : ∃ v, e = .returned (.tuple #[.agg #[.int .i64 k, .string x, .int .i64 c, v], .int .i64 er]) ∧ SliceR treeE w' (NS S W.heap.size w') ts v ∧ Below W.heap.size W w' := by
  obtain ⟨v, h1, h2, h3⟩ := h
  exact ⟨v, h1, h2, ofDrew h3⟩

set_option maxHeartbeats 8000000 in
theorem applyAll_any (t : Tree) (ops : List OpD) (A Ao : Option Addr) (cap co : Nat) (w : World) (hv : SliceR treeE w (Lt w.heap.size) t.kids (.slice A t.kids.length cap)) (hok : NodeOk t) (hct : countS t ≤ 900000) (ho : SliceR opE w (Lt w.heap.size) ops (.slice Ao ops.length co)) (hol : ops.length ≤ 1000) (hcn : ∀ k (hk : k < ops.length), countsS ops[k].nodes ≤ 100000) :
    Calls Try.prog 22 #[.agg #[.int .i64 t.kind, .string t.text, .int .i64 t.cols, .slice A t.kids.length cap], .slice Ao ops.length co] w (ApplyAllP w (applyAllS t ops)) := by
  have C1 : Hid (∀ W, Below w.heap.size w W → Calls Try.prog 32 #[.agg #[.int .i64 t.kind, .string t.text, .int .i64 t.cols, .slice A t.kids.length cap]] W fun e w' => e = .returned (.bool (validS t)) ∧ Below W.heap.size W w') := fun W hW => valid_any t A cap W (hv.below hW hW.size) hok.2.2 (by omega)
  have HA : Hid ((validS t = false → applyAllS t ops = (zeroT, 1)) ∧ (validS t = true → applyAllS t ops = goS t ops)) := ⟨fun h => if_pos h, fun h => if_neg (by simp [h])⟩
  generalize applyAllS t ops = RES at *
  generalize hbV : validS t = bV at *
  generalize hW0 : (w.alloc (Obj.cells #[.int .i64 t.kind, .string t.text, .int .i64 t.cols, .slice A t.kids.length cap] 24)).alloc (Obj.cells #[.int .i64 0, .string ⟨#[]⟩, .int .i64 0, .slice none 0 0] 24) = W0
  have hz0 : W0.heap.size = w.heap.size + 1 + 1 := by rw [← hW0]; simp
  have hB0 : Below w.heap.size w W0 := by rw [← hW0]; exact blAlloc (blA _ _) _
  have hbT : Box4 W0 w.heap.size t.kind t.text t.cols (.slice A t.kids.length cap) ∧ Free4 W0 w.heap.size := by
    rw [← hW0]
    exact ⟨(Box4.new w _ _ _ _ _).below (blA _ _) (by simp), (Free4.new w _ _).below (blA _ _) (by simp)⟩
  have hbR : Box4 W0 (w.heap.size + 1) 0 ⟨#[]⟩ 0 (.slice none 0 0) ∧ Free4 W0 (w.heap.size + 1) := by
    rw [← hW0]
    have h := Box4.new (w.alloc (Obj.cells #[.int .i64 t.kind, .string t.text, .int .i64 t.cols, .slice A t.kids.length cap] 24)) 0 ⟨#[]⟩ 0 (.slice none 0 0) 24
    have h2 := Free4.new (w.alloc (Obj.cells #[.int .i64 t.kind, .string t.text, .int .i64 t.cols, .slice A t.kids.length cap] 24)) #[.int .i64 0, .string ⟨#[]⟩, .int .i64 0, .slice none 0 0] 24
    exact ⟨by simpa using h, by simpa using h2⟩
  have KB : Hid (∀ W, Below W0.heap.size W0 W → (Box4 W w.heap.size t.kind t.text t.cols (.slice A t.kids.length cap) ∧ Free4 W w.heap.size) ∧ (Box4 W (w.heap.size + 1) 0 ⟨#[]⟩ 0 (.slice none 0 0) ∧ Free4 W (w.heap.size + 1)) ∧ Below w.heap.size w W) := fun W hW =>
    ⟨⟨hbT.1.below hW (by omega), hbT.2.below hW (by omega)⟩, ⟨hbR.1.below hW (by omega), hbR.2.below hW (by omega)⟩, hB0.trans (hW.mono hB0.size)⟩
  obtain ⟨⟨⟨m0, m1, m2, m3⟩, _⟩, _, _⟩ := KB.out W0 (Below.refl _ _)
  have HB0 := hid hB0
  have HZ0 := hid hz0
  cases bV with
  | false =>
    obtain ⟨tk, tx, tc, ts⟩ := t
    simp only [Tree.kind, Tree.text, Tree.cols, Tree.kids] at *
    clear hv hok hct ho hol hcn hz0 hB0 hbT hbR hbV
    go_enter Try.func22, Try.ntmps22
    go_wp2_with fail
    refine (C1.out _ HB0.out).mono ?_
    rintro e w1 ⟨rfl, hb1⟩
    obtain ⟨_, ⟨hrb, ⟨f0, f1, f2, f3⟩⟩, hbw⟩ := KB.out w1 hb1
    have HRB := hid hrb
    obtain ⟨r0, r1, r2, r3⟩ := hrb
    have HK1 := hid hbw
    clear hb1 hbw m0 m1 m2 m3
    go_wp2_with fail
    generalize hZ : ((((w1.setCell _ (.int .i64 0)).setCell _ (.string ⟨#[]⟩)).setCell _ (.int .i64 0)).setCell _ (.slice none 0 0)) = Z
    obtain ⟨⟨e0, e1, e2, e3⟩, hZs, hZB, hZo, _, _⟩ := fourAt (o := 0) HRB.out.1 HRB.out.2.1 HRB.out.2.2.1 HRB.out.2.2.2 _ _ _ _ hZ.symm
    simp only [Nat.zero_add] at e1 e2 e3
    have HZB := hid (hZB w.heap.size w (by omega) HK1.out)
    clear hZ hZs hZB hZo
    refine bodyPost_ret (v := .tuple #[.agg #[.int .i64 0, .string ⟨#[]⟩, .int .i64 0, .slice none 0 0], .int .i64 0, .int .i64 1]) (by simp [results, Try.results22, go_sem, e0, e1, e2, e3]) rfl ?_
    rw [HA.out.1 (by trivial)]
    exact ⟨_, _, rfl, SliceR.nil_ 0 (Nat.zero_le _) none, HZB.out⟩
  | true =>
  have HRS : Hid (RES = goS t ops) := HA.out.2 (by trivial)
  have CA : Hid (∀ k (hk : k < ops.length) (n : Tree) (A' Ar An : Option Addr) (c' cr cn : Nat) W (Sx : Nat → Prop), Below w.heap.size w W → (∀ q, Sx q → q < W.heap.size) → (∀ q, q < w.heap.size → Sx q) → SliceR treeE W Sx n.kids (.slice A' n.kids.length c') → NodeOk n → validS n = true → SliceR intE w (Lt w.heap.size) ops[k].row (.slice Ar ops[k].row.length cr) → SliceR treeE w (Lt w.heap.size) ops[k].nodes (.slice An ops[k].nodes.length cn) → In64 ops[k].at_ → In64 ops[k].n →
      Calls Try.prog 12 #[.agg #[.int .i64 n.kind, .string n.text, .int .i64 n.cols, .slice A' n.kids.length c'], .agg (opC ops[k] (.slice Ar ops[k].row.length cr) (.slice An ops[k].nodes.length cn))] W (ApplyP Sx W (applyS n ops[k]))) := by
    intro k hk n A' Ar An c' cr cn W Sx hW hs1 hs2 hn hno hnv hr hnd h1 h2
    obtain ⟨_, _, rso, _, _, _, _, hlso⟩ := ho
    exact apply_any n ops[k] A' Ar An c' cr cn W Sx hs1 hn hno (by have := (valid_count hnv).1; omega) ⟨h1, h2, op_text hlso hk, hcn k hk⟩ (hr.below hW hW.size) ((hnd.below hW (Nat.le_refl _)).keep (fun _ _ => rfl) (fun q hq => hs2 q hq))
  have HO : Hid (∀ k (hk : k < ops.length), ∃ g o Ar An cr cn, Ao = some ⟨g, o, none⟩ ∧ g < w.heap.size ∧ (w.cell? ⟨g, o + k * 8, none⟩ = some (.int .i64 ops[k].kind) ∧ w.cell? ⟨g, o + k * 8 + 1, none⟩ = some (.slice Ar ops[k].row.length cr) ∧ w.cell? ⟨g, o + k * 8 + 2, none⟩ = some (.int .i64 ops[k].at_) ∧
      w.cell? ⟨g, o + k * 8 + 3, none⟩ = some (.int .i64 ops[k].n) ∧ w.cell? ⟨g, o + k * 8 + 4, none⟩ = some (.slice An ops[k].nodes.length cn) ∧ w.cell? ⟨g, o + k * 8 + 5, none⟩ = some (.int .i64 ops[k].slot) ∧
      w.cell? ⟨g, o + k * 8 + 6, none⟩ = some (.string ops[k].old) ∧ w.cell? ⟨g, o + k * 8 + 7, none⟩ = some (.string ops[k].text)) ∧
      SliceR intE w (Lt w.heap.size) ops[k].row (.slice Ar ops[k].row.length cr) ∧ SliceR treeE w (Lt w.heap.size) ops[k].nodes (.slice An ops[k].nodes.length cn) ∧ In64 ops[k].at_ ∧ In64 ops[k].n) := by
    intro k hk
    obtain ⟨_, _, rso, hq, _, _, hrdo, hlso⟩ := ho
    cases hq
    obtain ⟨g, o, Ar, An, cr, cn, e, hg, p0, p1, p2, p3, p4, p5, p6, p7, hr, hn, h1, h2, _⟩ := ops_at hrdo hlso hk
    exact ⟨g, o, Ar, An, cr, cn, e, hg, ⟨p0, p1, p2, p3, p4, p5, p6, p7⟩, hr, hn, h1, h2⟩
  have HV := hid hv
  have HOK := hid hok
  have HVT := hid hbV
  obtain ⟨tk, tx, tc, ts⟩ := t
  simp only [Tree.kind, Tree.text, Tree.cols, Tree.kids] at *
  clear hv hok hct ho hcn hz0 hB0 hbT hbR hbV HA
  go_enter Try.func22, Try.ntmps22
  go_wp2_with fail
  refine (C1.out _ HB0.out).mono ?_
  rintro e w1 ⟨rfl, hb1⟩
  obtain ⟨⟨hx1, hx2⟩, ⟨hx3, hx4⟩, hbw⟩ := KB.out w1 hb1
  have HK1 := hid hbw
  have HX1 := hid hx1
  have HX2 := hid hx2
  have HX3 := hid hx3
  have HX4 := hid hx4
  have HZ1 : Hid (w.heap.size + 1 + 1 ≤ w1.heap.size) := by show _ ≤ _; have := hb1.size; have := HZ0.out; omega
  have HR1 : Hid (SliceR treeE w1 (NS (Lt w.heap.size) (w.heap.size + 1 + 1) w1) ts (.slice A ts.length cap)) := (HV.out.below hbw (Nat.le_refl _)).keep (fun _ _ => rfl) (fun q hq => .inl hq)
  clear hb1 hbw m0 m1 m2 m3 hx1 hx2 hx3 hx4
  go_wp2_with fail
  go_loopw [7] (fun i wr => ∃ (k : Nat) (n : Tree) (A' : Option Addr) (c' : Nat), i = .int .i64 k ∧ k ≤ ops.length ∧ Box4 wr w.heap.size n.kind n.text n.cols (.slice A' n.kids.length c') ∧ Free4 wr w.heap.size ∧ Box4 wr (w.heap.size + 1) 0 ⟨#[]⟩ 0 (.slice none 0 0) ∧ Free4 wr (w.heap.size + 1) ∧ SliceR treeE wr (NS (Lt w.heap.size) (w.heap.size + 1 + 1) wr) n.kids (.slice A' n.kids.length c') ∧ NodeOk n ∧ validS n = true ∧ RES = goS n (ops.drop k) ∧ Below w.heap.size w wr ∧ w.heap.size + 1 + 1 ≤ wr.heap.size) (fun i _ => ops.length - (intOf i).toNat)
  case atStart => exact ⟨0, .mk tk tx tc ts, A, cap, rfl, Nat.zero_le _, HX1.out, HX2.out, HX3.out, HX4.out, HR1.out, HOK.out, HVT.out, HRS.out, HK1.out, HZ1.out⟩
  case round =>
    obtain ⟨k, n, A', c', rfl, hk, hx1, hx2, hx3, hx4, hrn, hno, hnv, hres, hb, hz⟩ := hrel
    have HX3 := hid hx3
    have HX1 := hid hx1
    have HRN := hid hrn
    have HB := hid hb
    have HNO := hid hno
    have HZ := hid hz
    have HX2 := hid hx2
    have HX4 := hid hx4
    rcases Nat.lt_or_ge k ops.length with hlt | hge
    · obtain ⟨g, o, Ar, An, cr, cn, hao, hgl, ⟨p0, p1, p2, p3, p4, p5, p6, p7⟩, hr, hn, h1, h2⟩ := HO.out k hlt
      subst hao
      have KO : Hid (∀ W, Below w.heap.size w W → W.cell? ⟨g, o + k * 8, none⟩ = some (.int .i64 ops[k].kind) ∧ W.cell? ⟨g, o + k * 8 + 1, none⟩ = some (.slice Ar ops[k].row.length cr) ∧ W.cell? ⟨g, o + k * 8 + 2, none⟩ = some (.int .i64 ops[k].at_) ∧
          W.cell? ⟨g, o + k * 8 + 3, none⟩ = some (.int .i64 ops[k].n) ∧ W.cell? ⟨g, o + k * 8 + 4, none⟩ = some (.slice An ops[k].nodes.length cn) ∧ W.cell? ⟨g, o + k * 8 + 5, none⟩ = some (.int .i64 ops[k].slot) ∧
          W.cell? ⟨g, o + k * 8 + 6, none⟩ = some (.string ops[k].old) ∧ W.cell? ⟨g, o + k * 8 + 7, none⟩ = some (.string ops[k].text)) := fun W hW =>
        ⟨(hW.cell (p := ⟨g, _, none⟩) hgl).trans p0, (hW.cell (p := ⟨g, _, none⟩) hgl).trans p1, (hW.cell (p := ⟨g, _, none⟩) hgl).trans p2, (hW.cell (p := ⟨g, _, none⟩) hgl).trans p3, (hW.cell (p := ⟨g, _, none⟩) hgl).trans p4, (hW.cell (p := ⟨g, _, none⟩) hgl).trans p5, (hW.cell (p := ⟨g, _, none⟩) hgl).trans p6, (hW.cell (p := ⟨g, _, none⟩) hgl).trans p7⟩
      have CK : Hid (∀ W, Below wr.heap.size wr W → Calls Try.prog 12 #[.agg #[.int .i64 n.kind, .string n.text, .int .i64 n.cols, .slice A' n.kids.length c'], .agg (opC ops[k] (.slice Ar ops[k].row.length cr) (.slice An ops[k].nodes.length cn))] W (ApplyP (NS (Lt w.heap.size) (w.heap.size + 1 + 1) wr) W (applyS n ops[k]))) := fun W hW => CA.out k hlt n A' Ar An c' cr cn W (NS (Lt w.heap.size) (w.heap.size + 1 + 1) wr) (blCall hb hW) (fun q hq => by
          have hz9 := hW.size
          rcases hq with hq | hq
          · have h9 : q < w.heap.size := hq
            omega
          · omega) (fun q hq => .inl hq) (hrn.keep (fun q hq => hW.cell (by
          rcases hq with hq | hq
          · have h9 : q.block < w.heap.size := hq
            omega
          · exact hq.2)) (fun _ h => h)) hno hnv hr hn h1 h2
      have hstep : ((applyS n ops[k]).2 ≠ 0 → RES = (zeroT, (applyS n ops[k]).2)) ∧ ((applyS n ops[k]).2 = 0 → RES = goS (applyS n ops[k]).1 (ops.drop (k + 1)) ∧ validS (applyS n ops[k]).1 = true ∧ NodeOk (applyS n ops[k]).1) := by
        rw [List.drop_eq_getElem_cons hlt, goS] at hres
        constructor
        · intro h; rw [hres, if_pos h]
        · intro h
          rw [if_neg (by simp [h])] at hres
          exact ⟨hres, apply_good hno h⟩
      have HSTEP := hid hstep
      have i5 : decide ((k : Int) < (ops.length : Int)) = true := by rw [decide_eq_true_eq]; omega
      have i6 : (0 : Int) ≤ (k : Int) := by omega
      have i7 : (k : Int) < (ops.length : Int) := by omega
      obtain ⟨p0, p1, p2, p3, p4, p5, p6, p7⟩ := KO.out wr hb
      obtain ⟨m0, m1, m2, m3⟩ := hx1
      clear hstep hres hno hnv hr hn h1 h2 hrn hx2 hx3 hx4 CA HO
      generalize ops[k] = op at *
      generalize applyS n op = R at *
      obtain ⟨⟨rk, rx, rc, rs⟩, er⟩ := R
      obtain ⟨nk, nx, nc, ns⟩ := n
      obtain ⟨kind, row, at_, n, nodes, slot, old, text⟩ := op
      simp only [opC, Tree.kind, Tree.text, Tree.cols, Tree.kids] at *
      have ne1 : ¬ (wr.heap.size = w.heap.size) := by omega
      have ne2 : ¬ (wr.heap.size = g) := by omega
      clear hb hz
      go_wp2_with fail
      go_region_held3 (fun w' => (w'.cell? ⟨w.heap.size, 0, none⟩ = some (.int .i64 nk) ∧ w'.cell? ⟨w.heap.size, 1, none⟩ = some (.string nx) ∧ w'.cell? ⟨w.heap.size, 2, none⟩ = some (.int .i64 nc) ∧ w'.cell? ⟨w.heap.size, 3, none⟩ = some (.slice A' ns.length c')) ∧
          (w'.cell? ⟨g, o + k * 8, none⟩ = some (.int .i64 kind) ∧ w'.cell? ⟨g, o + k * 8 + 1, none⟩ = some (.slice Ar row.length cr) ∧ w'.cell? ⟨g, o + k * 8 + 2, none⟩ = some (.int .i64 at_) ∧ w'.cell? ⟨g, o + k * 8 + 3, none⟩ = some (.int .i64 n) ∧ w'.cell? ⟨g, o + k * 8 + 4, none⟩ = some (.slice An nodes.length cn) ∧ w'.cell? ⟨g, o + k * 8 + 5, none⟩ = some (.int .i64 slot) ∧ w'.cell? ⟨g, o + k * 8 + 6, none⟩ = some (.string old) ∧ w'.cell? ⟨g, o + k * 8 + 7, none⟩ = some (.string text))) (go_keep) (first
        | (go_at_call 12; refine (CK.out _ (Below.refl _ _).drew).mono ?_; intro e w5 h5; obtain ⟨v5, rfl, hr5, hb5⟩ := ApplyP.parts h5; obtain ⟨A5, c5, rfl⟩ := hr5.form; have HR5 := hid hr5; have HB5 := hid hb5; have HK5 := hid (blCall HB.out hb5); clear h5 hr5; obtain ⟨m0, m1, m2, m3⟩ := HX1.out.below hb5 (by have := HZ.out; omega); obtain ⟨p0, p1, p2, p3, p4, p5, p6, p7⟩ := KO.out w5 HK5.out; clear hb5)
        | (go_at_call 12; refine (CK.out _ (blA _ _).drew).mono ?_; intro e w5 h5; obtain ⟨v5, rfl, hr5, hb5⟩ := ApplyP.parts h5; obtain ⟨A5, c5, rfl⟩ := hr5.form; have HR5 := hid hr5; have HQ5 := hid hb5; have HB5 := hid (blCall (blA _ _) hb5); have HK5 := hid (blCall HB.out HB5.out); clear h5 hr5; obtain ⟨m0, m1, m2, m3⟩ := HX1.out.below HB5.out (by have := HZ.out; omega); obtain ⟨p0, p1, p2, p3, p4, p5, p6, p7⟩ := KO.out w5 HK5.out; have hy := (Box4.new wr 0 ⟨#[]⟩ 0 (.slice none 0 0) 24).below hb5 (by simp); have hyf := (Free4.new wr #[.int .i64 0, .string ⟨#[]⟩, .int .i64 0, .slice none 0 0] 24).below hb5 (by simp); have HYB := hid hy; obtain ⟨u0, u1, u2, u3⟩ := hy; obtain ⟨l0, l1, l2, l3⟩ := hyf; clear hb5))
      · obtain ⟨X, hX⟩ : ∃ X, w5.alloc (Obj.cells #[.int .i64 rk, .string rx, .int .i64 rc, .slice A5 rs.length c5] 24) = X := ⟨_, rfl⟩
        rw [hX]
        have hXB : Below w5.heap.size w5 X := by rw [← hX]; exact blA _ _
        have hXM : Box4 X w5.heap.size rk rx rc (.slice A5 rs.length c5) := by rw [← hX]; exact Box4.new _ _ _ _ _ _
        have hXZ : w5.heap.size < X.heap.size := by rw [← hX]; simp
        have hwx : Below wr.heap.size wr X := blCall HB5.out hXB
        have HZX : Hid (w.heap.size + 1 + 1 ≤ X.heap.size) := by show _ ≤ _; have := HZ.out; have := hwx.size; omega
        have HRX : Hid (SliceR treeE X (NS (Lt w.heap.size) (w.heap.size + 1 + 1) X) rs (.slice A5 rs.length c5)) := HR5.out.keep (fun q hq => hXB.cell (by
          have := HB5.out.size
          have := HK5.out.size
          rcases hq with (hq | hq) | hq
          · exact Nat.lt_of_lt_of_le hq HK5.out.size
          · omega
          · omega)) (fun q hq => by
          have := HB5.out.size
          have := HZ.out
          rcases hq with (hq | hq) | hq
          · exact .inl hq
          · exact .inr ⟨hq.1, by omega⟩
          · exact .inr ⟨by omega, by omega⟩)
        clear hX hXB hXZ m0 m1 m2 m3 p0 p1 p2 p3 p4 p5 p6 p7
        have HKX := hid (blCall HB.out hwx)
        have HY3 := hid (HX3.out.below hwx (by have := HZ.out; omega))
        have HY1 := hid (HX1.out.below hwx (by have := HZ.out; omega))
        have HY2 := hid (HX2.out.below hwx (by have := HZ.out; omega))
        have HY4 := hid (HX4.out.below hwx (by have := HZ.out; omega))
        obtain ⟨x0, x1, x2, x3⟩ := hXM
        clear hwx
        rcases Decidable.em (er = 0) with he | he
        case inr =>
          have i0 : (er != 0) = true := by simpa using he
          have HE := hid he
          obtain ⟨r0, r1, r2, r3⟩ := HY3.out
          obtain ⟨f0, f1, f2, f3⟩ := HY4.out
          clear he
          go_wp2_with fail
          generalize hZ : ((((X.setCell _ (.int .i64 0)).setCell _ (.string ⟨#[]⟩)).setCell _ (.int .i64 0)).setCell _ (.slice none 0 0)) = Z
          obtain ⟨⟨e0, e1, e2, e3⟩, hZs, hZB, hZo, _, _⟩ := fourAt (o := 0) HY3.out.1 HY3.out.2.1 HY3.out.2.2.1 HY3.out.2.2.2 _ _ _ _ hZ.symm
          simp only [Nat.zero_add] at e1 e2 e3
          have HZB := hid (hZB w.heap.size w (by omega) HKX.out)
          clear hZ hZs hZB hZo
          refine bodyPost_ret (v := .tuple #[.agg #[.int .i64 0, .string ⟨#[]⟩, .int .i64 0, .slice none 0 0], .int .i64 k, .int .i64 er]) (by simp [results, Try.results22, go_sem, e0, e1, e2, e3]) rfl ?_
          rw [HSTEP.out.1 HE.out]
          exact ⟨_, _, rfl, SliceR.nil_ 0 (Nat.zero_le _) none, HZB.out⟩
        subst he
        obtain ⟨y0, y1, y2, y3⟩ := HY1.out
        obtain ⟨f0, f1, f2, f3⟩ := HY2.out
        go_wp2_with fail
        generalize hZ : ((((X.setCell _ (.int .i64 rk)).setCell _ (.string rx)).setCell _ (.int .i64 rc)).setCell _ (.slice A5 rs.length c5)) = Z
        obtain ⟨⟨e0, e1, e2, e3⟩, hZs, hZB, hZo, _, hZf⟩ := fourAt (o := 0) HY1.out.1 HY1.out.2.1 HY1.out.2.2.1 HY1.out.2.2.2 _ _ _ _ hZ.symm
        simp only [Nat.zero_add] at e1 e2 e3
        have HZB := hid (hZB w.heap.size w (by omega) HKX.out)
        have HZO := hid hZo
        have HZS := hid hZs
        have HZF := hid hZf
        have HE4 : Hid (Box4 Z w.heap.size rk rx rc (.slice A5 rs.length c5)) := ⟨e0, e1, e2, e3⟩
        clear hZ hZs hZB hZo hZf
        go_roundw
        case rel =>
          obtain ⟨g1, g2, g3⟩ := HSTEP.out.2 (by trivial)
          refine ⟨k + 1, .mk rk rx rc rs, A5, c5, by go_num, by omega, HE4.out, ?_, ?_, ?_, ?_, g3, g2, g1, HZB.out, ?_⟩
          · exact ⟨(HZF.out _).trans HY2.out.1, (HZF.out _).trans HY2.out.2.1, (HZF.out _).trans HY2.out.2.2.1, (HZF.out _).trans HY2.out.2.2.2⟩
          · exact HY3.out.keep (fun o => HZO.out ⟨w.heap.size + 1, o, none⟩ (by simp))
          · exact ⟨(HZF.out _).trans HY4.out.1, (HZF.out _).trans HY4.out.2.1, (HZF.out _).trans HY4.out.2.2.1, (HZF.out _).trans HY4.out.2.2.2⟩
          · refine HRX.out.keep (fun q hq => HZO.out q ?_) (fun q hq => ?_)
            · rcases hq with hq | hq
              · exact Nat.ne_of_lt hq
              · omega
            · rcases hq with hq | hq
              · exact .inl hq
              · exact .inr ⟨hq.1, by have := HZS.out; omega⟩
          · have := HZS.out; have := HZX.out; omega
        case measure => simp [intOf]; omega
      · obtain ⟨X, hX⟩ : ∃ X, ((((w5.setCell ⟨wr.heap.size, 0, none⟩ (.int .i64 rk)).setCell ⟨wr.heap.size, 1, none⟩ (.string rx)).setCell ⟨wr.heap.size, 2, none⟩ (.int .i64 rc)).setCell ⟨wr.heap.size, 3, none⟩ (.slice A5 rs.length c5)) = X := ⟨_, rfl⟩
        rw [hX]
        obtain ⟨⟨x0, x1, x2, x3⟩, hXs, hXB, hXo, hXr, hXf⟩ := fourAt (o := 0) HYB.out.1 HYB.out.2.1 HYB.out.2.2.1 HYB.out.2.2.2 _ _ _ _ hX.symm
        simp only [Nat.zero_add] at x1 x2 x3
        have hXM : Box4 X wr.heap.size rk rx rc (.slice A5 rs.length c5) := ⟨x0, x1, x2, x3⟩
        have hwx : Below wr.heap.size wr X := hXB wr.heap.size wr (Nat.le_refl _) HB5.out
        have HZX : Hid (w.heap.size + 1 + 1 ≤ X.heap.size) := by show _ ≤ _; have := HZ.out; have := hwx.size; omega
        have HRX : Hid (SliceR treeE X (NS (Lt w.heap.size) (w.heap.size + 1 + 1) X) rs (.slice A5 rs.length c5)) := HR5.out.keep (fun q hq => hXo q (by
          have := HB.out.size
          rcases hq with (hq | hq) | hq
          · have h9 : q.block < w.heap.size := hq
            omega
          · omega
          · have h9 := hq.1
            simp at h9
            omega)) (fun q hq => by
          have := HB5.out.size
          have := HZ.out
          rcases hq with (hq | hq) | hq
          · exact .inl hq
          · exact .inr ⟨hq.1, by omega⟩
          · exact .inr ⟨by have h9 := hq.1; simp at h9; omega, by omega⟩)
        clear hX hXB hXs hXo hXr hXf m0 m1 m2 m3 p0 p1 p2 p3 p4 p5 p6 p7 u0 u1 u2 u3 l0 l1 l2 l3 x0 x1 x2 x3 HYB
        have HKX := hid (blCall HB.out hwx)
        have HY3 := hid (HX3.out.below hwx (by have := HZ.out; omega))
        have HY1 := hid (HX1.out.below hwx (by have := HZ.out; omega))
        have HY2 := hid (HX2.out.below hwx (by have := HZ.out; omega))
        have HY4 := hid (HX4.out.below hwx (by have := HZ.out; omega))
        obtain ⟨x0, x1, x2, x3⟩ := hXM
        clear hwx
        rcases Decidable.em (er = 0) with he | he
        case inr =>
          have i0 : (er != 0) = true := by simpa using he
          have HE := hid he
          obtain ⟨r0, r1, r2, r3⟩ := HY3.out
          obtain ⟨f0, f1, f2, f3⟩ := HY4.out
          clear he
          go_wp2_with fail
          generalize hZ : ((((X.setCell _ (.int .i64 0)).setCell _ (.string ⟨#[]⟩)).setCell _ (.int .i64 0)).setCell _ (.slice none 0 0)) = Z
          obtain ⟨⟨e0, e1, e2, e3⟩, hZs, hZB, hZo, _, _⟩ := fourAt (o := 0) HY3.out.1 HY3.out.2.1 HY3.out.2.2.1 HY3.out.2.2.2 _ _ _ _ hZ.symm
          simp only [Nat.zero_add] at e1 e2 e3
          have HZB := hid (hZB w.heap.size w (by omega) HKX.out)
          clear hZ hZs hZB hZo
          refine bodyPost_ret (v := .tuple #[.agg #[.int .i64 0, .string ⟨#[]⟩, .int .i64 0, .slice none 0 0], .int .i64 k, .int .i64 er]) (by simp [results, Try.results22, go_sem, e0, e1, e2, e3]) rfl ?_
          rw [HSTEP.out.1 HE.out]
          exact ⟨_, _, rfl, SliceR.nil_ 0 (Nat.zero_le _) none, HZB.out⟩
        subst he
        obtain ⟨y0, y1, y2, y3⟩ := HY1.out
        obtain ⟨f0, f1, f2, f3⟩ := HY2.out
        go_wp2_with fail
        generalize hZ : ((((X.setCell _ (.int .i64 rk)).setCell _ (.string rx)).setCell _ (.int .i64 rc)).setCell _ (.slice A5 rs.length c5)) = Z
        obtain ⟨⟨e0, e1, e2, e3⟩, hZs, hZB, hZo, _, hZf⟩ := fourAt (o := 0) HY1.out.1 HY1.out.2.1 HY1.out.2.2.1 HY1.out.2.2.2 _ _ _ _ hZ.symm
        simp only [Nat.zero_add] at e1 e2 e3
        have HZB := hid (hZB w.heap.size w (by omega) HKX.out)
        have HZO := hid hZo
        have HZS := hid hZs
        have HZF := hid hZf
        have HE4 : Hid (Box4 Z w.heap.size rk rx rc (.slice A5 rs.length c5)) := ⟨e0, e1, e2, e3⟩
        clear hZ hZs hZB hZo hZf
        go_roundw
        case rel =>
          obtain ⟨g1, g2, g3⟩ := HSTEP.out.2 (by trivial)
          refine ⟨k + 1, .mk rk rx rc rs, A5, c5, by go_num, by omega, HE4.out, ?_, ?_, ?_, ?_, g3, g2, g1, HZB.out, ?_⟩
          · exact ⟨(HZF.out _).trans HY2.out.1, (HZF.out _).trans HY2.out.2.1, (HZF.out _).trans HY2.out.2.2.1, (HZF.out _).trans HY2.out.2.2.2⟩
          · exact HY3.out.keep (fun o => HZO.out ⟨w.heap.size + 1, o, none⟩ (by simp))
          · exact ⟨(HZF.out _).trans HY4.out.1, (HZF.out _).trans HY4.out.2.1, (HZF.out _).trans HY4.out.2.2.1, (HZF.out _).trans HY4.out.2.2.2⟩
          · refine HRX.out.keep (fun q hq => HZO.out q ?_) (fun q hq => ?_)
            · rcases hq with hq | hq
              · exact Nat.ne_of_lt hq
              · omega
            · rcases hq with hq | hq
              · exact .inl hq
              · exact .inr ⟨hq.1, by have := HZS.out; omega⟩
          · have := HZS.out; have := HZX.out; omega
        case measure => simp [intOf]; omega
    · obtain rfl : k = ops.length := by omega
      have i5 : decide ((ops.length : Int) < (ops.length : Int)) = false := by rw [decide_eq_false_iff_not]; omega
      rw [List.drop_of_length_le (Nat.le_refl _), goS] at hres
      have HRES := hid hres
      obtain ⟨nk, nx, nc, ns⟩ := n
      simp only [Tree.kind, Tree.text, Tree.cols, Tree.kids] at *
      obtain ⟨m0, m1, m2, m3⟩ := hx1
      obtain ⟨r0, r1, r2, r3⟩ := hx3
      obtain ⟨f0, f1, f2, f3⟩ := hx4
      clear hres hno hnv hrn hx2 hb hz CA HO
      go_wp2_with fail
      generalize hZ : ((((wr.setCell _ (.int .i64 nk)).setCell _ (.string nx)).setCell _ (.int .i64 nc)).setCell _ (.slice A' ns.length c')) = Z
      obtain ⟨⟨e0, e1, e2, e3⟩, hZs, hZB, hZo, _, hZf⟩ := fourAt (o := 0) HX3.out.1 HX3.out.2.1 HX3.out.2.2.1 HX3.out.2.2.2 _ _ _ _ hZ.symm
      simp only [Nat.zero_add] at e1 e2 e3
      have HZB := hid (hZB w.heap.size w (by omega) HB.out)
      have HZO := hid hZo
      have HZS := hid hZs
      clear hZ hZs hZB hZo hZf
      refine bodyPost_ret (v := .tuple #[.agg #[.int .i64 nk, .string nx, .int .i64 nc, .slice A' ns.length c'], .int .i64 0, .int .i64 0]) (by simp [results, Try.results22, go_sem, e0, e1, e2, e3]) rfl ?_
      rw [HRES.out]
      refine ⟨_, _, rfl, HRN.out.keep (fun q hq => HZO.out q ?_) (fun q hq => ?_), HZB.out⟩
      · rcases hq with hq | hq
        · have h9 : q.block < w.heap.size := hq
          omega
        · omega
      · have := HZ.out
        have := HZS.out
        rcases hq with hq | hq
        · have h9 : q < w.heap.size := hq
          show q < _
          omega
        · show q < _
          omega
end Go.Proofs.Yteckkamlaibjbaa
/- Plain: the images of positions behind several operations. -/
set_option linter.unusedVariables false
set_option linter.unusedSimpArgs false
namespace Go.Proofs.Yteckkamlaibjbaa
open Go.RowKit

theorem go_pos (after : Bool) : (ops : List OpD) → (t m : Tree) → goS t ops = (m, 0) → validS t = true → validS m = true ∧ (∀ p, posIn t p = true → posIn m (mapAllS ops p after) = true) ∧ (∀ p p', posIn t p = true → posIn t p' = true → cmpS p p' ≤ 0 → cmpS (mapAllS ops p after) (mapAllS ops p' after) ≤ 0)
  | [], t, m, h, hv => by
    rw [goS] at h
    injection h with h _
    subst h
    exact ⟨hv, fun p hp => hp, fun p p' _ _ hc => hc⟩
  | op :: ops, t, m, h, hv => by
    rw [goS] at h
    split at h
    · rename_i h1; injection h with _ h; exact absurd h h1
    rename_i h1
    have e : applyS t op = ((applyS t op).1, 0) := by
      have : (applyS t op).2 = 0 := Decidable.byContradiction h1
      rw [← this]
    obtain ⟨_, hvm, _⟩ := apply_ok e
    obtain ⟨a1, a2⟩ := apply_pos e after
    obtain ⟨b1, b2, b3⟩ := go_pos after ops _ m h hvm
    exact ⟨b1, fun p hp => b2 _ (a1 p hp), fun p p' hp hp' hc => b3 _ _ (a1 p hp) (a1 p' hp') (a2 p p' hp hp' hc)⟩
theorem all_ok {t m : Tree} {ops : List OpD} (h : applyAllS t ops = (m, 0)) : validS t = true ∧ goS t ops = (m, 0) := by
  unfold applyAllS at h
  split at h
  · injection h with _ h; simp at h
  · rename_i h1; exact ⟨by simpa using h1, h⟩
theorem go_node (hok : ∀ t op, NodeOk t → (applyS t op).2 = 0 → NodeOk (applyS t op).1) : (ops : List OpD) → (t m : Tree) → goS t ops = (m, 0) → NodeOk t → NodeOk m
  | [], t, m, h, hn => by
    rw [goS] at h
    injection h with h _
    subst h
    exact hn
  | op :: ops, t, m, h, hn => by
    rw [goS] at h
    split at h
    · rename_i h1; injection h with _ h; exact absurd h h1
    rename_i h1
    exact go_node hok ops _ m h (hok t op hn (Decidable.byContradiction h1))

def lastA (ops : List OpD) (L : List (List Int)) (after : Bool) : Nat → List Int
  | 0 => []
  | k + 1 => mapAllS ops (L.getD k []) after
theorem lastA_step {ops : List OpD} {L : List (List Int)} {after : Bool} {k : Nat} (h : k < L.length) : lastA ops L after (k + 1) = mapAllS ops L[k] after := by
  show mapAllS ops (L.getD k []) after = _
  rw [List.getD_eq_getElem?_getD, List.getElem?_eq_getElem h]; rfl
theorem each_all {t m : Tree} {ops : List OpD} (h : applyAllS t ops = (m, 0)) (after : Bool) : ∀ (k : Nat) (hk : k < (allS [] t).length), posIn m (mapAllS ops (allS [] t)[k] after) = true ∧ cmpS (lastA ops (allS [] t) after k) (mapAllS ops (allS [] t)[k] after) ≤ 0 ∧ (allS [] t)[k].length ≤ 1000 ∧ ∀ x ∈ (allS [] t)[k], 0 ≤ x ∧ x ≤ 1000 := by
  intro k hk
  obtain ⟨hv, hg⟩ := all_ok h
  obtain ⟨_, h1, h2⟩ := go_pos after ops t m hg hv
  have hp : ∀ j (hj : j < (allS [] t).length), posIn t (allS [] t)[j] = true := fun j hj => mem_all.1 (List.getElem_mem hj)
  obtain ⟨hc1, _, _, hd⟩ := valid_count hv
  have hb := posIn_bd t _ (hp k hk)
  refine ⟨h1 _ (hp k hk), ?_, by omega, fun x hx => ⟨(hb.2 x hx).1, by have := (hb.2 x hx).2; omega⟩⟩
  cases k with
  | zero => exact cmp_nil _
  | succ j =>
    rw [lastA_step (by omega)]
    refine h2 _ _ (hp j (by omega)) (hp (j + 1) hk) ?_
    have := List.pairwise_iff_getElem.1 (allS_sorted [] t) j (j + 1) (by omega) hk (by omega)
    unfold ltS at this
    omega
end Go.Proofs.Yteckkamlaibjbaa
/- What law13's few says of several operations. -/
set_option linter.unusedVariables false
set_option linter.unusedSimpArgs false
namespace Go.Proofs.Yteckkamlaibjbaa
open Go.RowKit

theorem all_of {α : Type} {p : α → Bool} {l : List α} (h : l.all p = true) : ∀ x ∈ l, p x = true := fun x hx => List.all_eq_true.1 h x hx

theorem few13_ops {t : Tree} {pos : List Int} {ops : List OpD} (h : few13S t pos ops = true) :
    OpsOk ops ∧ (ops ≠ [] → ∀ x ∈ pos, Bd 1099511627776 x) ∧ ops.length ≤ 12 ∧ pos.length ≤ 60 := by
  unfold few13S at h
  simp only [Bool.and_eq_true, decide_eq_true_eq] at h
  obtain ⟨h1, ⟨h2, h3⟩, h4⟩ := h
  have hop : ∀ op ∈ ops, op.Ok ∧ (∀ x ∈ op.row, Bd 1099511627776 x) ∧ op.row.length ≤ 60 ∧ ∀ x ∈ pos, Bd 1099511627776 x := by
    intro op hm
    have hs := all_of h1 op hm
    have hfw : opFewS op = true := by unfold opSmall at hs; simp only [Bool.and_eq_true] at hs; exact hs.1.1.1
    exact opSmall_ok hs (Nat.le_trans (opFew_len hfw) (by omega))
  refine ⟨fun op hm => ⟨(hop op hm).1, (hop op hm).2.1, (hop op hm).2.2.1⟩, fun hn => ?_, h3, h4⟩
  cases ops with
  | nil => exact absurd rfl hn
  | cons op ops => exact (hop op (by simp)).2.2.2

end Go.Proofs.Yteckkamlaibjbaa
/- vinculumlaw13.PosmapScript: the walk. -/
set_option linter.unusedVariables false
set_option linter.unusedSimpArgs false
set_option maxRecDepth 100000
namespace Go.Proofs.Yteckkamlaibjbaa
open Go.RowKit

set_option maxHeartbeats 8000000 in
theorem pscr_walk (t : Tree) (ops : List OpD) (after : Bool) (A Ao : Option Addr) (cap co : Nat) (w : World) (hv : TreesS w (Lt w.heap.size) t.kids (.slice A t.kids.length cap)) (hok : NodeOk t) (ho : SliceR opE w (Lt w.heap.size) ops (.slice Ao ops.length co)) :
    Calls Try.prog 6 #[.agg #[.int .i64 t.kind, .string t.text, .int .i64 t.cols, .slice A t.kids.length cap], .slice Ao ops.length co, .bool after] w fun e w' => e = .returned (.bool true) ∧ Below w.heap.size w w' := by
  have HFEW : Hid (∀ W, Below w.heap.size w W → Calls Try.prog 10 #[.agg #[.int .i64 t.kind, .string t.text, .int .i64 t.cols, .slice A t.kids.length cap], .slice none 0 0, .slice Ao ops.length co] W fun e w' => e = .returned (.bool (few13S t [] ops)) ∧ Below W.heap.size W w') :=
    fun W hW => few13_any t [] ops A none Ao cap 0 co W (hv.below hW hW.size) (SliceR.nil_ 0 (Nat.zero_le _) none) (ho.below hW hW.size)
  have HF80 : Hid (∀ W, Below w.heap.size w W → Calls Try.prog 11 #[.agg #[.int .i64 t.kind, .string t.text, .int .i64 t.cols, .slice A t.kids.length cap], .int .i64 60] W fun e w' => e = .returned (.bool (fewS t 60)) ∧ Below W.heap.size W w') := fun W hW => few_any t W _ 60 (hv.below hW hW.size) (by omega) (by omega)
  generalize hW0 : w.alloc (Obj.cells #[.int .i64 t.kind, .string t.text, .int .i64 t.cols, .slice A t.kids.length cap] 24) = W0
  have hz0 : W0.heap.size = w.heap.size + 1 := by rw [← hW0]; simp
  have KB : Hid (∀ W, Below W0.heap.size W0 W → Box4 W w.heap.size t.kind t.text t.cols (.slice A t.kids.length cap) ∧ Below w.heap.size w W) := fun W hW => by
    have hB0 : Below w.heap.size w W0 := by rw [← hW0]; exact blA _ _
    have hbT : Box4 W0 w.heap.size t.kind t.text t.cols (.slice A t.kids.length cap) := by
      rw [← hW0]
      exact Box4.new w _ _ _ _ _
    exact ⟨hbT.below hW (by omega), hB0.trans (hW.mono hB0.size)⟩
  cases hf : few13S t [] ops with
  | false =>
    rw [hf] at HFEW
    obtain ⟨tk, tx, tc, ts⟩ := t
    simp only [Tree.kind, Tree.text, Tree.cols, Tree.kids] at *
    clear hf ho hv hok hz0 HF80
    go_enter Try.func6, Try.ntmps6
    go_wp2_with fail
    refine (awake_any _).mono ?_
    rintro e w1 ⟨rfl, hb1⟩
    obtain ⟨⟨m0, m1, m2, m3⟩, hbw⟩ := KB.out w1 hb1
    have HK1 := hid hbw
    clear hb1 hbw
    go_wp2_with fail
    refine (HFEW.out _ HK1.out).mono ?_
    rintro e w2 ⟨rfl, hb2⟩
    have HK2 := hid (blCall HK1.out hb2)
    clear hb2
    go_wp2_with fail
    refine (awake_any _).mono ?_
    rintro e w3 ⟨rfl, hb3⟩
    have HK3 := hid (blCall HK2.out hb3)
    clear hb3
    go_wp2_with fail
    go_ret
    exact ⟨rfl, HK3.out⟩
  | true =>
  rw [hf] at HFEW
  cases hf8 : fewS t 60 with
  | false =>
    rw [hf8] at HF80
    obtain ⟨tk, tx, tc, ts⟩ := t
    simp only [Tree.kind, Tree.text, Tree.cols, Tree.kids] at *
    clear hf hf8 ho hv hok hz0
    go_enter Try.func6, Try.ntmps6
    go_wp2_with fail
    refine (awake_any _).mono ?_
    rintro e w1 ⟨rfl, hb1⟩
    obtain ⟨⟨m0, m1, m2, m3⟩, hbw⟩ := KB.out w1 hb1
    have HK1 := hid hbw
    have HT1 := hid hb1
    clear hb1 hbw
    go_wp2_with fail
    refine (HFEW.out _ HK1.out).mono ?_
    rintro e w2 ⟨rfl, hb2⟩
    have HT2 := hid (HT1.out.trans (hb2.mono HT1.out.size))
    clear hb2 m0 m1 m2 m3
    obtain ⟨⟨m0, m1, m2, m3⟩, hbw⟩ := KB.out w2 HT2.out
    have HK2 := hid hbw
    clear hbw
    go_wp2_with fail
    refine (HF80.out _ HK2.out).mono ?_
    rintro e w3 ⟨rfl, hb3⟩
    have HK3 := hid (blCall HK2.out hb3)
    clear hb3
    go_wp2_with fail
    refine (awake_any _).mono ?_
    rintro e w4 ⟨rfl, hb4⟩
    have HK4 := hid (blCall HK3.out hb4)
    clear hb4
    go_wp2_with fail
    go_ret
    exact ⟨rfl, HK4.out⟩
  | true =>
  rw [hf8] at HF80
  have hct : countS t ≤ 900000 := by
    have := few_count hf8
    omega
  obtain ⟨hok', _, hol, _⟩ := few13_ops hf
  have hcn : ∀ k (hk : k < ops.length), countsS ops[k].nodes ≤ 100000 := by
    intro k hk
    unfold few13S at hf
    simp only [Bool.and_eq_true] at hf
    have hs := all_of hf.1 ops[k] (List.getElem_mem hk)
    have hfw : opFewS ops[k] = true := by unfold opSmall at hs; simp only [Bool.and_eq_true] at hs; exact hs.1.1.1
    unfold opFewS at hfw
    simp only [Bool.and_eq_true] at hfw
    have h := few_count hfw.1
    have h2 : countS (.mk 1 ⟨#[]⟩ 0 ops[k].nodes) = 1 + countsS ops[k].nodes := rfl
    omega
  have CA : Hid (∀ W, Below w.heap.size w W → Calls Try.prog 22 #[.agg #[.int .i64 t.kind, .string t.text, .int .i64 t.cols, .slice A t.kids.length cap], .slice Ao ops.length co] W (ApplyAllP W (applyAllS t ops))) := fun W hW =>
    applyAll_any t ops A Ao cap co W (hv.below hW hW.size) hok hct (ho.below hW hW.size) (by omega) hcn
  have CL : Hid (∀ W, Below w.heap.size w W → Calls Try.prog 13 #[.agg #[.int .i64 t.kind, .string t.text, .int .i64 t.cols, .slice A t.kids.length cap]] W (AllRes W (validS t) (allS [] t))) := fun W hW => rAll_any t A cap W (hv.below hW hW.size) hok.2.2 hct
  have CM : Hid (∀ (p : List Int) W Ap cp, Below w.heap.size w W → p.length ≤ 1000 → (∀ x ∈ p, 0 ≤ x ∧ x ≤ 1000) → IntsR W (Lt W.heap.size) p (.slice Ap p.length cp) → Calls Try.prog 20 #[.slice Ao ops.length co, .slice Ap p.length cp, .bool after] W (IntsPost W (mapAllS ops p after))) := fun p W Ap cp hW hl hb hp =>
    mapAll_any ops p after Ao Ap co cp W hok' (by omega) (ho.below hW hW.size) hp (by omega) (fun _ x hx => by have := hb x hx; unfold Bd; omega)
  obtain ⟨⟨m, er⟩, hap⟩ : ∃ r, applyAllS t ops = r := ⟨_, rfl⟩
  rw [hap] at CA
  rcases Decidable.em (er = 0) with he | he
  case inr =>
    have i0 : (er != 0) = true := by simpa using he
    obtain ⟨tk, tx, tc, ts⟩ := t
    obtain ⟨mk, mx, mc, ms⟩ := m
    simp only [Tree.kind, Tree.text, Tree.cols, Tree.kids] at *
    clear hf hf8 ho hv hok hz0 hct hcn hok' hol hap CL CM he
    go_enter Try.func6, Try.ntmps6
    go_wp2_with fail
    refine (awake_any _).mono ?_
    rintro e w1 ⟨rfl, hb1⟩
    obtain ⟨⟨m0, m1, m2, m3⟩, hbw⟩ := KB.out w1 hb1
    have HK1 := hid hbw
    have HT1 := hid hb1
    clear hb1 hbw
    go_wp2_with fail
    refine (HFEW.out _ HK1.out).mono ?_
    rintro e w2 ⟨rfl, hb2⟩
    have HT2 := hid (HT1.out.trans (hb2.mono HT1.out.size))
    clear hb2 m0 m1 m2 m3
    obtain ⟨⟨m0, m1, m2, m3⟩, hbw⟩ := KB.out w2 HT2.out
    have HK2 := hid hbw
    clear hbw
    go_wp2_with fail
    refine (HF80.out _ HK2.out).mono ?_
    rintro e w3 ⟨rfl, hb3⟩
    have HT3 := hid (HT2.out.trans (hb3.mono HT2.out.size))
    clear hb3 m0 m1 m2 m3
    obtain ⟨⟨m0, m1, m2, m3⟩, hbw⟩ := KB.out w3 HT3.out
    have HK3 := hid hbw
    clear hbw
    go_wp2_with fail
    refine (CA.out _ HK3.out).mono ?_
    intro e w4 h4
    obtain ⟨v4, i4, rfl, hr4, hb4⟩ : ∃ v i, e = .returned (.tuple #[.agg #[.int .i64 mk, .string mx, .int .i64 mc, v], .int .i64 i, .int .i64 er]) ∧ SliceR treeE w4 (Lt w4.heap.size) ms v ∧ Below w3.heap.size w3 w4 := h4
    obtain ⟨A4, c4, rfl⟩ := hr4.form
    have HK4 := hid (blCall HK3.out hb4)
    clear hb4 hr4 m0 m1 m2 m3
    go_wp2_with fail
    go_ret
    exact ⟨rfl, blAlloc HK4.out _⟩
  subst he
  have HE := hid (each_all hap after)
  obtain ⟨hvt, hgo⟩ := all_ok hap
  have hvm := (go_pos after ops t m hgo hvt).1
  have hcm := (valid_count hvm).1
  have hmx : m.text.size ≤ maxLen := (go_node (fun t op h1 h2 => (apply_good h1 h2).2) ops t m hgo hok).2.2
  have CV : Hid (∀ (q : List Int) W A' c' vq, SliceR treeE W (Lt W.heap.size) m.kids (.slice A' m.kids.length c') → posIn m q = true → IntsR W (Lt W.heap.size) q vq → Calls Try.prog 15 #[.agg #[.int .i64 m.kind, .string m.text, .int .i64 m.cols, .slice A' m.kids.length c'], vq] W fun e w' => e = .returned (.bool true) ∧ Below W.heap.size W w') := fun q W A' c' vq hm hq hi => by
    have h := rValid_any m q A' c' vq W hm hmx (by omega) hi
    rw [hvm, hq] at h
    exact h
  rw [hvt] at CL
  have HLS : Hid (∀ k (hk : k < (allS [] t).length), lastA ops (allS [] t) after (k + 1) = mapAllS ops (allS [] t)[k] after) := fun k hk => lastA_step hk
  have HLL := allS_le t hct
  generalize allS [] t = L at *
  obtain ⟨tk, tx, tc, ts⟩ := t
  obtain ⟨mk, mx, mc, ms⟩ := m
  have HMAP : Hid (∀ (p : List Int) W Ap cp, Below w.heap.size w W → p.length ≤ 1000 → (∀ x ∈ p, 0 ≤ x ∧ x ≤ 1000) → IntsR W (Lt W.heap.size) p (.slice Ap p.length cp) → Calls Try.prog 20 #[.slice Ao ops.length co, .slice Ap p.length cp, .bool after] W (IntsPost W (mapAllS ops p after))) := CM.out
  clear CM
  generalize hmp : (fun p => mapAllS ops p after) = MP at *
  have hmp2 : ∀ p, mapAllS ops p after = MP p := fun p => by rw [← hmp]
  simp only [hmp2] at HE HLS HMAP
  generalize hls : lastA ops L after = LS at *
  have HL0 : Hid (LS 0 = []) := by show _ = _; rw [← hls]; rfl
  simp only [Tree.kind, Tree.text, Tree.cols, Tree.kids] at *
  clear hf hf8 ho hv hok hz0 hct hcn hok' hol hap hvt hgo hvm hcm hmx hmp hmp2 hls
  go_enter Try.func6, Try.ntmps6
  go_wp2_with fail
  refine (awake_any _).mono ?_
  rintro e w1 ⟨rfl, hb1⟩
  obtain ⟨⟨m0, m1, m2, m3⟩, hbw⟩ := KB.out w1 hb1
  have HK1 := hid hbw
  have HT1 := hid hb1
  clear hb1 hbw
  go_wp2_with fail
  refine (HFEW.out _ HK1.out).mono ?_
  rintro e w2 ⟨rfl, hb2⟩
  have HT2 := hid (HT1.out.trans (hb2.mono HT1.out.size))
  clear hb2 m0 m1 m2 m3
  obtain ⟨⟨m0, m1, m2, m3⟩, hbw⟩ := KB.out w2 HT2.out
  have HK2 := hid hbw
  clear hbw
  go_wp2_with fail
  refine (HF80.out _ HK2.out).mono ?_
  rintro e w3 ⟨rfl, hb3⟩
  have HT3 := hid (HT2.out.trans (hb3.mono HT2.out.size))
  clear hb3 m0 m1 m2 m3
  obtain ⟨⟨m0, m1, m2, m3⟩, hbw⟩ := KB.out w3 HT3.out
  have HK3 := hid hbw
  clear hbw
  go_wp2_with fail
  refine (CA.out _ HK3.out).mono ?_
  intro e w4 h4
  obtain ⟨v4, i4, rfl, hr4, hb4⟩ : ∃ v i, e = .returned (.tuple #[.agg #[.int .i64 mk, .string mx, .int .i64 mc, v], .int .i64 i, .int .i64 0]) ∧ SliceR treeE w4 (Lt w4.heap.size) ms v ∧ Below w3.heap.size w3 w4 := h4
  obtain ⟨A4, c4, rfl⟩ := hr4.form
  have HT4 := hid (HT3.out.trans (hb4.mono HT3.out.size))
  have HR4 := hid hr4
  clear hb4 hr4 m0 m1 m2 m3
  go_upto_region 6 with fail
  obtain ⟨X, hX⟩ : ∃ X, w4.alloc (Obj.cells #[.int .i64 mk, .string mx, .int .i64 mc, .slice A4 ms.length c4] 24) = X := ⟨_, rfl⟩
  rw [hX]
  have hXB : Below w4.heap.size w4 X := by rw [← hX]; exact blA _ _
  have hXM : Box4 X w4.heap.size mk mx mc (.slice A4 ms.length c4) := by rw [← hX]; exact Box4.new _ _ _ _ _ _
  have hXZ : w4.heap.size < X.heap.size := by rw [← hX]; simp
  have HTX := hid (HT4.out.trans (hXB.mono HT4.out.size))
  have HRX := hid (HR4.out.below hXB hXB.size)
  have KX : Hid (∀ W, Below X.heap.size X W → Box4 W w4.heap.size mk mx mc (.slice A4 ms.length c4) ∧ SliceR treeE W (Lt W.heap.size) ms (.slice A4 ms.length c4) ∧ Box4 W w.heap.size tk tx tc (.slice A ts.length cap) ∧ Below w.heap.size w W) := fun W hW =>
    ⟨hXM.below hW hXZ, HRX.out.below hW hW.size, KB.out W (HTX.out.trans (hW.mono HTX.out.size))⟩
  obtain ⟨_, _, ⟨m0, m1, m2, m3⟩, hbw⟩ := KX.out X (Below.refl _ _)
  have HKX := hid hbw
  clear hX hXB hXM hXZ hbw
  go_wp2_with fail
  refine (CL.out _ HKX.out).mono ?_
  rintro e w6 ⟨hb6, (⟨h, _⟩ | ⟨_, v6, rfl, hr6⟩)⟩
  case inl => cases h
  obtain ⟨A6, c6, rfl⟩ := hr6.rows.form
  have HT6 := hid hb6
  have HR6 := hid hr6.rowsLt
  clear hb6 hr6 m0 m1 m2 m3
  go_wp2_with fail
  go_loopw [12, 46] (fun v i wr => Below w6.heap.size w6 wr ∧ ∃ k : Nat, k ≤ L.length ∧ i = .int .i64 k ∧ IntsR wr (Lt wr.heap.size) (LS k) v) (fun _ i _ => L.length - (intOf i).toNat)
  case atStart => exact ⟨Below.refl _ _, 0, Nat.zero_le _, rfl, by rw [HL0.out]; exact SliceR.nil_ 0 (Nat.zero_le _) none⟩
  case round =>
    obtain ⟨hb, k, hk, rfl, hlast⟩ := hrel
    have HB := hid hb
    obtain ⟨AL, cL, rfl⟩ := hlast.form
    have HLA := hid hlast
    clear hb hlast
    rcases Nat.lt_or_ge k L.length with hlt | hge
    · obtain ⟨_, _, rs, hq, _, _, hrd, hls⟩ := HR6.out.below HB.out HB.out.size
      cases hq
      obtain ⟨g, o, A3, c3, rs3, rfl, hg, q0, h5, h6, h7, h8⟩ := rows_at hrd hls hlt
      have HP := hid (show IntsR wr (Lt wr.heap.size) L[k] (.slice A3 L[k].length c3) from ⟨_, _, rs3, rfl, h5, h6, h7, h8⟩)
      obtain ⟨e1, e2, e3, e4⟩ := HE.out k hlt
      have HE1 := hid e1
      have HE2 := hid e2
      have HE3 := hid e3
      have HE4 := hid e4
      have HNX := hid (HLS.out k hlt)
      have d0 : decide ((0 : Int) < cmpS (LS k) (MP L[k])) = false := by rw [decide_eq_false_iff_not]; omega
      have HTR := hid (HT6.out.trans (HB.out.mono HT6.out.size))
      obtain ⟨_, _, _, hbw⟩ := KX.out wr HTR.out
      have HKR := hid hbw
      have i5 : decide ((k : Int) < (L.length : Int)) = true := by rw [decide_eq_true_eq]; omega
      have i6 : (0 : Int) ≤ (k : Int) := by omega
      have i7 : (k : Int) < (L.length : Int) := by omega
      clear hrd hls h5 h6 h7 h8 e1 e2 e3 e4 hbw
      generalize L[k] = pk at *
      go_wp2_with fail
      refine (HMAP.out pk wr _ _ HKR.out HE3.out HE4.out HP.out).mono ?_
      rintro e w7 ⟨v7, rfl, hi7, hb7⟩
      obtain ⟨A7, c7, rfl⟩ := hi7.form
      have HT7 := hid (HTR.out.trans (hb7.mono HTR.out.size))
      have HB7 := hid (blCall HB.out hb7)
      have HI7 := hid hi7
      have HLA7 := hid (HLA.out.below hb7 hb7.size)
      clear hb7 hi7 q0
      obtain ⟨⟨m0, m1, m2, m3⟩, hrm, _, _⟩ := KX.out w7 HT7.out
      have HRM := hid hrm
      clear hrm
      go_wp2_with fail
      refine (CV.out _ w7 _ _ _ HRM.out HE1.out HI7.out).mono ?_
      rintro e w8 ⟨rfl, hb8⟩
      have HB8 := hid (blCall HB7.out hb8)
      have HI8 := hid (HI7.out.below hb8 hb8.size)
      have HLA8 := hid (HLA7.out.below hb8 hb8.size)
      clear hb8 m0 m1 m2 m3
      go_wp2_with fail
      refine (compare_q _ _ w8 _ _ _ _ HLA8.out HI8.out).mono ?_
      rintro e w9 ⟨rfl, n9, rfl⟩
      go_wp2_with fail
      go_roundw
      case rel => exact ⟨bl_dnC HB8.out, k + 1, by omega, by go_num, by rw [HNX.out]; exact HI8.out.keep (fun _ _ => rfl) (fun _ h => h)⟩
      case measure => simp [intOf]; omega
    · have i5 : decide ((k : Int) < (L.length : Int)) = false := by rw [decide_eq_false_iff_not]; omega
      have HTR := hid (HT6.out.trans (HB.out.mono HT6.out.size))
      obtain ⟨_, _, _, hbw⟩ := KX.out wr HTR.out
      have HKR := hid hbw
      clear hbw
      go_wp2_with fail
      go_ret
      exact ⟨rfl, HKR.out⟩
end Go.Proofs.Yteckkamlaibjbaa
