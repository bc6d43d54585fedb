/- Texts put together. -/
import Derived.Test.YtbjcioknfjofkaaGreatQ368bf61fcf
import Derived.Test.YtbjcioknfjofkaaGreatQca7e3f3545
set_option linter.unusedVariables false
set_option linter.unusedSimpArgs false
set_option maxRecDepth 100000
namespace Go.Proofs.YtbjcioknfjofkaaGreat
open Go.RowKit
def goS:Tree→List OpD→Tree × Int
 | t,[]=>(t,0)
 | t,op :: ops=>if (applyS t op).2≠0 then (zeroT,(applyS t op).2) else goS (applyS t op).1 ops
def applyAllS (t:Tree) (ops:List OpD):Tree × Int:=if validS t = false then (zeroT,1) else goS t ops
def ApplyAllP (w:World) (r:Tree × Int) (e:Ending) (w':World):Prop :=
 ∃ v i,e = .returned (.tuple #[.agg #[.int .i64 r.1.kind,.string r.1.text,.int .i64 r.1.cols,v],.int .i64 i,.int .i64 r.2])∧SliceR treeE w' (Lt w'.heap.size) r.1.kids v∧Below w.heap.size w w'
def ApplyAllN (S:Nat→Prop) (w:World) (r:Tree × Int) (e:Ending) (w':World):Prop :=
 ∃ v i,e = .returned (.tuple #[.agg #[.int .i64 r.1.kind,.string r.1.text,.int .i64 r.1.cols,v],.int .i64 i,.int .i64 r.2])∧SliceR treeE w' (NS S w.heap.size w') r.1.kids v∧Below w.heap.size w w'
theorem apply_good {t:Tree} {op:OpD} (hok:NodeOk t) (h:(applyS t op).2 = 0):validS (applyS t op).1 = true∧NodeOk (applyS t op).1:=by
 unfold applyS at h ⊢
 split at h
 ·simp at h
 rename_i h1
 rw [if_neg h1]
 split at h
 ·simp at h
 rename_i h2
 rw [if_neg h2]
 split at h
 ·rename_i h3;exact absurd h h3
 rename_i h3
 rw [if_neg h3]
 split at h
 ·rename_i h4;exact absurd h h4
 rename_i h4
 rw [if_neg h4]
 split at h
 ·simp at h
 rename_i h5
 rw [if_neg h5]
 exact ⟨by simpa using h5,putS_ok t op.row _ hok⟩
theorem op_text {w:World} {S:Nat→Prop} {ops:List OpD} {cs:List Value} (h4:ListR opE w S ops cs) {k:Nat} (hk:k < ops.length):ops[k].text.size≤maxLen:=by
 obtain ⟨c,_,hR,_⟩:=h4.at_ hk
 obtain ⟨vr,vn,rfl,h1,h2,h3',h4',h5,h6,h7,h8⟩:=hR
 exact h6
theorem ApplyP.parts {S:Nat→Prop} {W w':World} {k:Int} {x:ByteArray} {c:Int} {ts:List Tree} {er:Int} {e:Ending} (h:ApplyP S W.drew (.mk k x c ts,er) e w'):∃ v,e = .returned (.tuple #[.agg #[.int .i64 k,.string x,.int .i64 c,v],.int .i64 er])∧SliceR treeE w' (NS S W.heap.size w') ts v∧Below W.heap.size W w':=by
 obtain ⟨v,h1,h2,h3⟩:=h
 exact ⟨v,h1,h2,ofDrew h3⟩
set_option maxHeartbeats 8000000 in
theorem applyAllN_any (t : Tree) (ops : List OpD) (A Ao : Option Addr) (cap co : Nat) (w : World) (S : Nat → Prop) (hSl : ∀ q, S q → q < w.heap.size) (hv : SliceR treeE w S t.kids (.slice A t.kids.length cap)) (hok : NodeOk t) (hct : countS t ≤ 900000) (ho : SliceR opE w S ops (.slice Ao ops.length co)) (hol : ops.length ≤ 1000) (hcn : ∀ k (hk : k < ops.length), countsS ops[k].nodes ≤ 100000) :
    Calls Tryz.prog 16 #[.agg #[.int .i64 t.kind, .string t.text, .int .i64 t.cols, .slice A t.kids.length cap], .slice Ao ops.length co] w (ApplyAllN S w (applyAllS t ops)) := by
  have C1 : Hid (∀ W, Below w.heap.size w W → Calls Tryz.prog 35 #[.agg #[.int .i64 t.kind, .string t.text, .int .i64 t.cols, .slice A t.kids.length cap]] W fun e w' => e = .returned (.bool (validS t)) ∧ Below W.heap.size W w') := fun W hW => valid_any t A cap W (hv.keep (fun q hq => hW.cell (hSl _ hq)) (fun q hq => Nat.lt_of_lt_of_le (hSl q hq) hW.size)) hok.2.2 (by omega)
  have HA : Hid ((validS t = false → applyAllS t ops = (zeroT, 1)) ∧ (validS t = true → applyAllS t ops = goS t ops)) := ⟨fun h => if_pos h, fun h => if_neg (by simp [h])⟩
  generalize applyAllS t ops = RES at *
  generalize hbV : validS t = bV at *
  generalize hW0 : (w.alloc (Obj.cells #[.int .i64 t.kind, .string t.text, .int .i64 t.cols, .slice A t.kids.length cap] 24)).alloc (Obj.cells #[.int .i64 0, .string ⟨#[]⟩, .int .i64 0, .slice none 0 0] 24) = W0
  have hz0 : W0.heap.size = w.heap.size + 1 + 1 := by rw [← hW0]; simp
  have hB0 : Below w.heap.size w W0 := by rw [← hW0]; exact blAlloc (blA _ _) _
  have hbT : Box4 W0 w.heap.size t.kind t.text t.cols (.slice A t.kids.length cap) ∧ Free4 W0 w.heap.size := by
    rw [← hW0]
    exact ⟨(Box4.new w _ _ _ _ _).below (blA _ _) (by simp), (Free4.new w _ _).below (blA _ _) (by simp)⟩
  have hbR : Box4 W0 (w.heap.size + 1) 0 ⟨#[]⟩ 0 (.slice none 0 0) ∧ Free4 W0 (w.heap.size + 1) := by
    rw [← hW0]
    have h := Box4.new (w.alloc (Obj.cells #[.int .i64 t.kind, .string t.text, .int .i64 t.cols, .slice A t.kids.length cap] 24)) 0 ⟨#[]⟩ 0 (.slice none 0 0) 24
    have h2 := Free4.new (w.alloc (Obj.cells #[.int .i64 t.kind, .string t.text, .int .i64 t.cols, .slice A t.kids.length cap] 24)) #[.int .i64 0, .string ⟨#[]⟩, .int .i64 0, .slice none 0 0] 24
    exact ⟨by simpa using h, by simpa using h2⟩
  have KB : Hid (∀ W, Below W0.heap.size W0 W → (Box4 W w.heap.size t.kind t.text t.cols (.slice A t.kids.length cap) ∧ Free4 W w.heap.size) ∧ (Box4 W (w.heap.size + 1) 0 ⟨#[]⟩ 0 (.slice none 0 0) ∧ Free4 W (w.heap.size + 1)) ∧ Below w.heap.size w W) := fun W hW =>
    ⟨⟨hbT.1.below hW (by omega), hbT.2.below hW (by omega)⟩, ⟨hbR.1.below hW (by omega), hbR.2.below hW (by omega)⟩, hB0.trans (hW.mono hB0.size)⟩
  obtain ⟨⟨⟨m0, m1, m2, m3⟩, _⟩, _, _⟩ := KB.out W0 (Below.refl _ _)
  have HB0 := hid hB0
  have HZ0 := hid hz0
  cases bV with
  | false =>
    obtain ⟨tk, tx, tc, ts⟩ := t
    simp only [Tree.kind, Tree.text, Tree.cols, Tree.kids] at *
    clear hv hok hct ho hol hcn hz0 hB0 hbT hbR hbV hSl
    go_enter Tryz.func16, Tryz.ntmps16
    go_wp2_with fail
    refine (C1.out _ HB0.out).mono ?_
    rintro e w1 ⟨rfl, hb1⟩
    obtain ⟨_, ⟨hrb, ⟨f0, f1, f2, f3⟩⟩, hbw⟩ := KB.out w1 hb1
    have HRB := hid hrb
    obtain ⟨r0, r1, r2, r3⟩ := hrb
    have HK1 := hid hbw
    clear hb1 hbw m0 m1 m2 m3
    go_wp2_with fail
    generalize hZ : ((((w1.setCell _ (.int .i64 0)).setCell _ (.string ⟨#[]⟩)).setCell _ (.int .i64 0)).setCell _ (.slice none 0 0)) = Z
    obtain ⟨⟨e0, e1, e2, e3⟩, hZs, hZB, hZo, _, _⟩ := fourAt (o := 0) HRB.out.1 HRB.out.2.1 HRB.out.2.2.1 HRB.out.2.2.2 _ _ _ _ hZ.symm
    simp only [Nat.zero_add] at e1 e2 e3
    have HZB := hid (hZB w.heap.size w (by omega) HK1.out)
    clear hZ hZs hZB hZo
    refine bodyPost_ret (v := .tuple #[.agg #[.int .i64 0, .string ⟨#[]⟩, .int .i64 0, .slice none 0 0], .int .i64 0, .int .i64 1]) (by simp [results, Tryz.results16, go_sem, e0, e1, e2, e3]) rfl ?_
    rw [HA.out.1 (by trivial)]
    exact ⟨_, _, rfl, SliceR.nil_ 0 (Nat.zero_le _) none, HZB.out⟩
  | true =>
  have HRS : Hid (RES = goS t ops) := HA.out.2 (by trivial)
  have CA : Hid (∀ k (hk : k < ops.length) (n : Tree) (A' Ar An : Option Addr) (c' cr cn : Nat) W (Sx : Nat → Prop), Below w.heap.size w W → (∀ q, Sx q → q < W.heap.size) → (∀ q, S q → Sx q) → SliceR treeE W Sx n.kids (.slice A' n.kids.length c') → NodeOk n → validS n = true → SliceR intE w S ops[k].row (.slice Ar ops[k].row.length cr) → SliceR treeE w S ops[k].nodes (.slice An ops[k].nodes.length cn) → In64 ops[k].at_ → In64 ops[k].n →
      Calls Tryz.prog 45 #[.agg #[.int .i64 n.kind, .string n.text, .int .i64 n.cols, .slice A' n.kids.length c'], .agg (opC ops[k] (.slice Ar ops[k].row.length cr) (.slice An ops[k].nodes.length cn))] W (ApplyP Sx W (applyS n ops[k]))) := by
    intro k hk n A' Ar An c' cr cn W Sx hW hs1 hs2 hn hno hnv hr hnd h1 h2
    obtain ⟨_, _, rso, _, _, _, _, hlso⟩ := ho
    exact apply_any n ops[k] A' Ar An c' cr cn W Sx hs1 hn hno (by have := (valid_count hnv).1; omega) ⟨h1, h2, op_text hlso hk, hcn k hk⟩ (hr.keep (fun q hq => hW.cell (hSl _ hq)) (fun q hq => Nat.lt_of_lt_of_le (hSl q hq) hW.size)) (hnd.keep (fun q hq => hW.cell (hSl _ hq)) (fun q hq => hs2 q hq))
  have HO : Hid (∀ k (hk : k < ops.length), ∃ g o Ar An cr cn, Ao = some ⟨g, o, none⟩ ∧ g < w.heap.size ∧ (w.cell? ⟨g, o + k * 8, none⟩ = some (.int .i64 ops[k].kind) ∧ w.cell? ⟨g, o + k * 8 + 1, none⟩ = some (.slice Ar ops[k].row.length cr) ∧ w.cell? ⟨g, o + k * 8 + 2, none⟩ = some (.int .i64 ops[k].at_) ∧
      w.cell? ⟨g, o + k * 8 + 3, none⟩ = some (.int .i64 ops[k].n) ∧ w.cell? ⟨g, o + k * 8 + 4, none⟩ = some (.slice An ops[k].nodes.length cn) ∧ w.cell? ⟨g, o + k * 8 + 5, none⟩ = some (.int .i64 ops[k].slot) ∧
      w.cell? ⟨g, o + k * 8 + 6, none⟩ = some (.string ops[k].old) ∧ w.cell? ⟨g, o + k * 8 + 7, none⟩ = some (.string ops[k].text)) ∧
      SliceR intE w S ops[k].row (.slice Ar ops[k].row.length cr) ∧ SliceR treeE w S ops[k].nodes (.slice An ops[k].nodes.length cn) ∧ In64 ops[k].at_ ∧ In64 ops[k].n) := by
    intro k hk
    obtain ⟨_, _, rso, hq, _, _, hrdo, hlso⟩ := ho
    cases hq
    obtain ⟨g, o, Ar, An, cr, cn, e, hg, p0, p1, p2, p3, p4, p5, p6, p7, hr, hn, h1, h2, _⟩ := ops_at hrdo hlso hk
    exact ⟨g, o, Ar, An, cr, cn, e, hSl _ hg, ⟨p0, p1, p2, p3, p4, p5, p6, p7⟩, hr, hn, h1, h2⟩
  have HV := hid hv
  have HSL := hid hSl
  have HOK := hid hok
  have HVT := hid hbV
  obtain ⟨tk, tx, tc, ts⟩ := t
  simp only [Tree.kind, Tree.text, Tree.cols, Tree.kids] at *
  clear hv hok hct ho hcn hz0 hB0 hbT hbR hbV HA hSl
  go_enter Tryz.func16, Tryz.ntmps16
  go_wp2_with fail
  refine (C1.out _ HB0.out).mono ?_
  rintro e w1 ⟨rfl, hb1⟩
  obtain ⟨⟨hx1, hx2⟩, ⟨hx3, hx4⟩, hbw⟩ := KB.out w1 hb1
  have HK1 := hid hbw
  have HX1 := hid hx1
  have HX2 := hid hx2
  have HX3 := hid hx3
  have HX4 := hid hx4
  have HZ1 : Hid (w.heap.size + 1 + 1 ≤ w1.heap.size) := by show _ ≤ _; have := hb1.size; have := HZ0.out; omega
  have HR1 : Hid (SliceR treeE w1 (NS S (w.heap.size + 1 + 1) w1) ts (.slice A ts.length cap)) := HV.out.keep (fun q hq => hbw.cell (HSL.out _ hq)) (fun q hq => .inl hq)
  clear hb1 hbw m0 m1 m2 m3 hx1 hx2 hx3 hx4
  go_wp2_with fail
  go_loopw [7] (fun i wr => ∃ (k : Nat) (n : Tree) (A' : Option Addr) (c' : Nat), i = .int .i64 k ∧ k ≤ ops.length ∧ Box4 wr w.heap.size n.kind n.text n.cols (.slice A' n.kids.length c') ∧ Free4 wr w.heap.size ∧ Box4 wr (w.heap.size + 1) 0 ⟨#[]⟩ 0 (.slice none 0 0) ∧ Free4 wr (w.heap.size + 1) ∧ SliceR treeE wr (NS S (w.heap.size + 1 + 1) wr) n.kids (.slice A' n.kids.length c') ∧ NodeOk n ∧ validS n = true ∧ RES = goS n (ops.drop k) ∧ Below w.heap.size w wr ∧ w.heap.size + 1 + 1 ≤ wr.heap.size) (fun i _ => ops.length - (intOf i).toNat)
  case atStart => exact ⟨0, .mk tk tx tc ts, A, cap, rfl, Nat.zero_le _, HX1.out, HX2.out, HX3.out, HX4.out, HR1.out, HOK.out, HVT.out, HRS.out, HK1.out, HZ1.out⟩
  case round =>
    obtain ⟨k, n, A', c', rfl, hk, hx1, hx2, hx3, hx4, hrn, hno, hnv, hres, hb, hz⟩ := hrel
    have HX3 := hid hx3
    have HX1 := hid hx1
    have HRN := hid hrn
    have HB := hid hb
    have HNO := hid hno
    have HZ := hid hz
    have HX2 := hid hx2
    have HX4 := hid hx4
    rcases Nat.lt_or_ge k ops.length with hlt | hge
    · obtain ⟨g, o, Ar, An, cr, cn, hao, hgl, ⟨p0, p1, p2, p3, p4, p5, p6, p7⟩, hr, hn, h1, h2⟩ := HO.out k hlt
      subst hao
      have KO : Hid (∀ W, Below w.heap.size w W → W.cell? ⟨g, o + k * 8, none⟩ = some (.int .i64 ops[k].kind) ∧ W.cell? ⟨g, o + k * 8 + 1, none⟩ = some (.slice Ar ops[k].row.length cr) ∧ W.cell? ⟨g, o + k * 8 + 2, none⟩ = some (.int .i64 ops[k].at_) ∧
          W.cell? ⟨g, o + k * 8 + 3, none⟩ = some (.int .i64 ops[k].n) ∧ W.cell? ⟨g, o + k * 8 + 4, none⟩ = some (.slice An ops[k].nodes.length cn) ∧ W.cell? ⟨g, o + k * 8 + 5, none⟩ = some (.int .i64 ops[k].slot) ∧
          W.cell? ⟨g, o + k * 8 + 6, none⟩ = some (.string ops[k].old) ∧ W.cell? ⟨g, o + k * 8 + 7, none⟩ = some (.string ops[k].text)) := fun W hW =>
        ⟨(hW.cell (p := ⟨g, _, none⟩) hgl).trans p0, (hW.cell (p := ⟨g, _, none⟩) hgl).trans p1, (hW.cell (p := ⟨g, _, none⟩) hgl).trans p2, (hW.cell (p := ⟨g, _, none⟩) hgl).trans p3, (hW.cell (p := ⟨g, _, none⟩) hgl).trans p4, (hW.cell (p := ⟨g, _, none⟩) hgl).trans p5, (hW.cell (p := ⟨g, _, none⟩) hgl).trans p6, (hW.cell (p := ⟨g, _, none⟩) hgl).trans p7⟩
      have CK : Hid (∀ W, Below wr.heap.size wr W → Calls Tryz.prog 45 #[.agg #[.int .i64 n.kind, .string n.text, .int .i64 n.cols, .slice A' n.kids.length c'], .agg (opC ops[k] (.slice Ar ops[k].row.length cr) (.slice An ops[k].nodes.length cn))] W (ApplyP (NS S (w.heap.size + 1 + 1) wr) W (applyS n ops[k]))) := fun W hW => CA.out k hlt n A' Ar An c' cr cn W (NS S (w.heap.size + 1 + 1) wr) (blCall hb hW) (fun q hq => by
          have hz9 := hW.size
          rcases hq with hq | hq
          · have h9 : q < w.heap.size := HSL.out _ hq
            omega
          · omega) (fun q hq => .inl hq) (hrn.keep (fun q hq => hW.cell (by
          rcases hq with hq | hq
          · have h9 : q.block < w.heap.size := HSL.out _ hq
            omega
          · exact hq.2)) (fun _ h => h)) hno hnv hr hn h1 h2
      have hstep : ((applyS n ops[k]).2 ≠ 0 → RES = (zeroT, (applyS n ops[k]).2)) ∧ ((applyS n ops[k]).2 = 0 → RES = goS (applyS n ops[k]).1 (ops.drop (k + 1)) ∧ validS (applyS n ops[k]).1 = true ∧ NodeOk (applyS n ops[k]).1) := by
        rw [List.drop_eq_getElem_cons hlt, goS] at hres
        constructor
        · intro h; rw [hres, if_pos h]
        · intro h
          rw [if_neg (by simp [h])] at hres
          exact ⟨hres, apply_good hno h⟩
      have HSTEP := hid hstep
      have i5 : decide ((k : Int) < (ops.length : Int)) = true := by rw [decide_eq_true_eq]; omega
      have i6 : (0 : Int) ≤ (k : Int) := by omega
      have i7 : (k : Int) < (ops.length : Int) := by omega
      obtain ⟨p0, p1, p2, p3, p4, p5, p6, p7⟩ := KO.out wr hb
      obtain ⟨m0, m1, m2, m3⟩ := hx1
      clear hstep hres hno hnv hr hn h1 h2 hrn hx2 hx3 hx4 CA HO
      generalize ops[k] = op at *
      generalize applyS n op = R at *
      obtain ⟨⟨rk, rx, rc, rs⟩, er⟩ := R
      obtain ⟨nk, nx, nc, ns⟩ := n
      obtain ⟨kind, row, at_, n, nodes, slot, old, text⟩ := op
      simp only [opC, Tree.kind, Tree.text, Tree.cols, Tree.kids] at *
      have ne1 : ¬ (wr.heap.size = w.heap.size) := by omega
      have ne2 : ¬ (wr.heap.size = g) := by omega
      clear hb hz
      go_wp2_with fail
      go_region_held3 (fun w' => (w'.cell? ⟨w.heap.size, 0, none⟩ = some (.int .i64 nk) ∧ w'.cell? ⟨w.heap.size, 1, none⟩ = some (.string nx) ∧ w'.cell? ⟨w.heap.size, 2, none⟩ = some (.int .i64 nc) ∧ w'.cell? ⟨w.heap.size, 3, none⟩ = some (.slice A' ns.length c')) ∧
          (w'.cell? ⟨g, o + k * 8, none⟩ = some (.int .i64 kind) ∧ w'.cell? ⟨g, o + k * 8 + 1, none⟩ = some (.slice Ar row.length cr) ∧ w'.cell? ⟨g, o + k * 8 + 2, none⟩ = some (.int .i64 at_) ∧ w'.cell? ⟨g, o + k * 8 + 3, none⟩ = some (.int .i64 n) ∧ w'.cell? ⟨g, o + k * 8 + 4, none⟩ = some (.slice An nodes.length cn) ∧ w'.cell? ⟨g, o + k * 8 + 5, none⟩ = some (.int .i64 slot) ∧ w'.cell? ⟨g, o + k * 8 + 6, none⟩ = some (.string old) ∧ w'.cell? ⟨g, o + k * 8 + 7, none⟩ = some (.string text))) (go_keep) (first
        | (go_at_call 45; refine (CK.out _ (Below.refl _ _).drew).mono ?_; intro e w5 h5; obtain ⟨v5, rfl, hr5, hb5⟩ := ApplyP.parts h5; obtain ⟨A5, c5, rfl⟩ := hr5.form; have HR5 := hid hr5; have HB5 := hid hb5; have HK5 := hid (blCall HB.out hb5); clear h5 hr5; obtain ⟨m0, m1, m2, m3⟩ := HX1.out.below hb5 (by have := HZ.out; omega); obtain ⟨p0, p1, p2, p3, p4, p5, p6, p7⟩ := KO.out w5 HK5.out; clear hb5)
        | (go_at_call 45; refine (CK.out _ (blA _ _).drew).mono ?_; intro e w5 h5; obtain ⟨v5, rfl, hr5, hb5⟩ := ApplyP.parts h5; obtain ⟨A5, c5, rfl⟩ := hr5.form; have HR5 := hid hr5; have HQ5 := hid hb5; have HB5 := hid (blCall (blA _ _) hb5); have HK5 := hid (blCall HB.out HB5.out); clear h5 hr5; obtain ⟨m0, m1, m2, m3⟩ := HX1.out.below HB5.out (by have := HZ.out; omega); obtain ⟨p0, p1, p2, p3, p4, p5, p6, p7⟩ := KO.out w5 HK5.out; have hy := (Box4.new wr 0 ⟨#[]⟩ 0 (.slice none 0 0) 24).below hb5 (by simp); have hyf := (Free4.new wr #[.int .i64 0, .string ⟨#[]⟩, .int .i64 0, .slice none 0 0] 24).below hb5 (by simp); have HYB := hid hy; obtain ⟨u0, u1, u2, u3⟩ := hy; obtain ⟨l0, l1, l2, l3⟩ := hyf; clear hb5))
      · obtain ⟨X, hX⟩ : ∃ X, w5.alloc (Obj.cells #[.int .i64 rk, .string rx, .int .i64 rc, .slice A5 rs.length c5] 24) = X := ⟨_, rfl⟩
        rw [hX]
        have hXB : Below w5.heap.size w5 X := by rw [← hX]; exact blA _ _
        have hXM : Box4 X w5.heap.size rk rx rc (.slice A5 rs.length c5) := by rw [← hX]; exact Box4.new _ _ _ _ _ _
        have hXZ : w5.heap.size < X.heap.size := by rw [← hX]; simp
        have hwx : Below wr.heap.size wr X := blCall HB5.out hXB
        have HZX : Hid (w.heap.size + 1 + 1 ≤ X.heap.size) := by show _ ≤ _; have := HZ.out; have := hwx.size; omega
        have HRX : Hid (SliceR treeE X (NS S (w.heap.size + 1 + 1) X) rs (.slice A5 rs.length c5)) := HR5.out.keep (fun q hq => hXB.cell (by
          have := HB5.out.size
          have := HK5.out.size
          rcases hq with (hq | hq) | hq
          · exact Nat.lt_of_lt_of_le (HSL.out _ hq) HK5.out.size
          · omega
          · omega)) (fun q hq => by
          have := HB5.out.size
          have := HZ.out
          rcases hq with (hq | hq) | hq
          · exact .inl hq
          · exact .inr ⟨hq.1, by omega⟩
          · exact .inr ⟨by omega, by omega⟩)
        clear hX hXB hXZ m0 m1 m2 m3 p0 p1 p2 p3 p4 p5 p6 p7
        have HKX := hid (blCall HB.out hwx)
        have HY3 := hid (HX3.out.below hwx (by have := HZ.out; omega))
        have HY1 := hid (HX1.out.below hwx (by have := HZ.out; omega))
        have HY2 := hid (HX2.out.below hwx (by have := HZ.out; omega))
        have HY4 := hid (HX4.out.below hwx (by have := HZ.out; omega))
        obtain ⟨x0, x1, x2, x3⟩ := hXM
        clear hwx
        rcases Decidable.em (er = 0) with he | he
        case inr =>
          have i0 : (er != 0) = true := by simpa using he
          have HE := hid he
          obtain ⟨r0, r1, r2, r3⟩ := HY3.out
          obtain ⟨f0, f1, f2, f3⟩ := HY4.out
          clear he
          go_wp2_with fail
          generalize hZ : ((((X.setCell _ (.int .i64 0)).setCell _ (.string ⟨#[]⟩)).setCell _ (.int .i64 0)).setCell _ (.slice none 0 0)) = Z
          obtain ⟨⟨e0, e1, e2, e3⟩, hZs, hZB, hZo, _, _⟩ := fourAt (o := 0) HY3.out.1 HY3.out.2.1 HY3.out.2.2.1 HY3.out.2.2.2 _ _ _ _ hZ.symm
          simp only [Nat.zero_add] at e1 e2 e3
          have HZB := hid (hZB w.heap.size w (by omega) HKX.out)
          clear hZ hZs hZB hZo
          refine bodyPost_ret (v := .tuple #[.agg #[.int .i64 0, .string ⟨#[]⟩, .int .i64 0, .slice none 0 0], .int .i64 k, .int .i64 er]) (by simp [results, Tryz.results16, go_sem, e0, e1, e2, e3]) rfl ?_
          rw [HSTEP.out.1 HE.out]
          exact ⟨_, _, rfl, SliceR.nil_ 0 (Nat.zero_le _) none, HZB.out⟩
        subst he
        obtain ⟨y0, y1, y2, y3⟩ := HY1.out
        obtain ⟨f0, f1, f2, f3⟩ := HY2.out
        go_wp2_with fail
        generalize hZ : ((((X.setCell _ (.int .i64 rk)).setCell _ (.string rx)).setCell _ (.int .i64 rc)).setCell _ (.slice A5 rs.length c5)) = Z
        obtain ⟨⟨e0, e1, e2, e3⟩, hZs, hZB, hZo, _, hZf⟩ := fourAt (o := 0) HY1.out.1 HY1.out.2.1 HY1.out.2.2.1 HY1.out.2.2.2 _ _ _ _ hZ.symm
        simp only [Nat.zero_add] at e1 e2 e3
        have HZB := hid (hZB w.heap.size w (by omega) HKX.out)
        have HZO := hid hZo
        have HZS := hid hZs
        have HZF := hid hZf
        have HE4 : Hid (Box4 Z w.heap.size rk rx rc (.slice A5 rs.length c5)) := ⟨e0, e1, e2, e3⟩
        clear hZ hZs hZB hZo hZf
        go_roundw
        case rel =>
          obtain ⟨g1, g2, g3⟩ := HSTEP.out.2 (by trivial)
          refine ⟨k + 1, .mk rk rx rc rs, A5, c5, by go_num, by omega, HE4.out, ?_, ?_, ?_, ?_, g3, g2, g1, HZB.out, ?_⟩
          · exact ⟨(HZF.out _).trans HY2.out.1, (HZF.out _).trans HY2.out.2.1, (HZF.out _).trans HY2.out.2.2.1, (HZF.out _).trans HY2.out.2.2.2⟩
          · exact HY3.out.keep (fun o => HZO.out ⟨w.heap.size + 1, o, none⟩ (by simp))
          · exact ⟨(HZF.out _).trans HY4.out.1, (HZF.out _).trans HY4.out.2.1, (HZF.out _).trans HY4.out.2.2.1, (HZF.out _).trans HY4.out.2.2.2⟩
          · refine HRX.out.keep (fun q hq => HZO.out q ?_) (fun q hq => ?_)
            · rcases hq with hq | hq
              · exact Nat.ne_of_lt (HSL.out _ hq)
              · omega
            · rcases hq with hq | hq
              · exact .inl hq
              · exact .inr ⟨hq.1, by have := HZS.out; omega⟩
          · have := HZS.out; have := HZX.out; omega
        case measure => simp [intOf]; omega
      · obtain ⟨X, hX⟩ : ∃ X, ((((w5.setCell ⟨wr.heap.size, 0, none⟩ (.int .i64 rk)).setCell ⟨wr.heap.size, 1, none⟩ (.string rx)).setCell ⟨wr.heap.size, 2, none⟩ (.int .i64 rc)).setCell ⟨wr.heap.size, 3, none⟩ (.slice A5 rs.length c5)) = X := ⟨_, rfl⟩
        rw [hX]
        obtain ⟨⟨x0, x1, x2, x3⟩, hXs, hXB, hXo, hXr, hXf⟩ := fourAt (o := 0) HYB.out.1 HYB.out.2.1 HYB.out.2.2.1 HYB.out.2.2.2 _ _ _ _ hX.symm
        simp only [Nat.zero_add] at x1 x2 x3
        have hXM : Box4 X wr.heap.size rk rx rc (.slice A5 rs.length c5) := ⟨x0, x1, x2, x3⟩
        have hwx : Below wr.heap.size wr X := hXB wr.heap.size wr (Nat.le_refl _) HB5.out
        have HZX : Hid (w.heap.size + 1 + 1 ≤ X.heap.size) := by show _ ≤ _; have := HZ.out; have := hwx.size; omega
        have HRX : Hid (SliceR treeE X (NS S (w.heap.size + 1 + 1) X) rs (.slice A5 rs.length c5)) := HR5.out.keep (fun q hq => hXo q (by
          have := HB.out.size
          rcases hq with (hq | hq) | hq
          · have h9 : q.block < w.heap.size := HSL.out _ hq
            omega
          · omega
          · have h9 := hq.1
            simp at h9
            omega)) (fun q hq => by
          have := HB5.out.size
          have := HZ.out
          rcases hq with (hq | hq) | hq
          · exact .inl hq
          · exact .inr ⟨hq.1, by omega⟩
          · exact .inr ⟨by have h9 := hq.1; simp at h9; omega, by omega⟩)
        clear hX hXB hXs hXo hXr hXf m0 m1 m2 m3 p0 p1 p2 p3 p4 p5 p6 p7 u0 u1 u2 u3 l0 l1 l2 l3 x0 x1 x2 x3 HYB
        have HKX := hid (blCall HB.out hwx)
        have HY3 := hid (HX3.out.below hwx (by have := HZ.out; omega))
        have HY1 := hid (HX1.out.below hwx (by have := HZ.out; omega))
        have HY2 := hid (HX2.out.below hwx (by have := HZ.out; omega))
        have HY4 := hid (HX4.out.below hwx (by have := HZ.out; omega))
        obtain ⟨x0, x1, x2, x3⟩ := hXM
        clear hwx
        rcases Decidable.em (er = 0) with he | he
        case inr =>
          have i0 : (er != 0) = true := by simpa using he
          have HE := hid he
          obtain ⟨r0, r1, r2, r3⟩ := HY3.out
          obtain ⟨f0, f1, f2, f3⟩ := HY4.out
          clear he
          go_wp2_with fail
          generalize hZ : ((((X.setCell _ (.int .i64 0)).setCell _ (.string ⟨#[]⟩)).setCell _ (.int .i64 0)).setCell _ (.slice none 0 0)) = Z
          obtain ⟨⟨e0, e1, e2, e3⟩, hZs, hZB, hZo, _, _⟩ := fourAt (o := 0) HY3.out.1 HY3.out.2.1 HY3.out.2.2.1 HY3.out.2.2.2 _ _ _ _ hZ.symm
          simp only [Nat.zero_add] at e1 e2 e3
          have HZB := hid (hZB w.heap.size w (by omega) HKX.out)
          clear hZ hZs hZB hZo
          refine bodyPost_ret (v := .tuple #[.agg #[.int .i64 0, .string ⟨#[]⟩, .int .i64 0, .slice none 0 0], .int .i64 k, .int .i64 er]) (by simp [results, Tryz.results16, go_sem, e0, e1, e2, e3]) rfl ?_
          rw [HSTEP.out.1 HE.out]
          exact ⟨_, _, rfl, SliceR.nil_ 0 (Nat.zero_le _) none, HZB.out⟩
        subst he
        obtain ⟨y0, y1, y2, y3⟩ := HY1.out
        obtain ⟨f0, f1, f2, f3⟩ := HY2.out
        go_wp2_with fail
        generalize hZ : ((((X.setCell _ (.int .i64 rk)).setCell _ (.string rx)).setCell _ (.int .i64 rc)).setCell _ (.slice A5 rs.length c5)) = Z
        obtain ⟨⟨e0, e1, e2, e3⟩, hZs, hZB, hZo, _, hZf⟩ := fourAt (o := 0) HY1.out.1 HY1.out.2.1 HY1.out.2.2.1 HY1.out.2.2.2 _ _ _ _ hZ.symm
        simp only [Nat.zero_add] at e1 e2 e3
        have HZB := hid (hZB w.heap.size w (by omega) HKX.out)
        have HZO := hid hZo
        have HZS := hid hZs
        have HZF := hid hZf
        have HE4 : Hid (Box4 Z w.heap.size rk rx rc (.slice A5 rs.length c5)) := ⟨e0, e1, e2, e3⟩
        clear hZ hZs hZB hZo hZf
        go_roundw
        case rel =>
          obtain ⟨g1, g2, g3⟩ := HSTEP.out.2 (by trivial)
          refine ⟨k + 1, .mk rk rx rc rs, A5, c5, by go_num, by omega, HE4.out, ?_, ?_, ?_, ?_, g3, g2, g1, HZB.out, ?_⟩
          · exact ⟨(HZF.out _).trans HY2.out.1, (HZF.out _).trans HY2.out.2.1, (HZF.out _).trans HY2.out.2.2.1, (HZF.out _).trans HY2.out.2.2.2⟩
          · exact HY3.out.keep (fun o => HZO.out ⟨w.heap.size + 1, o, none⟩ (by simp))
          · exact ⟨(HZF.out _).trans HY4.out.1, (HZF.out _).trans HY4.out.2.1, (HZF.out _).trans HY4.out.2.2.1, (HZF.out _).trans HY4.out.2.2.2⟩
          · refine HRX.out.keep (fun q hq => HZO.out q ?_) (fun q hq => ?_)
            · rcases hq with hq | hq
              · exact Nat.ne_of_lt (HSL.out _ hq)
              · omega
            · rcases hq with hq | hq
              · exact .inl hq
              · exact .inr ⟨hq.1, by have := HZS.out; omega⟩
          · have := HZS.out; have := HZX.out; omega
        case measure => simp [intOf]; omega
    · obtain rfl : k = ops.length := by omega
      have i5 : decide ((ops.length : Int) < (ops.length : Int)) = false := by rw [decide_eq_false_iff_not]; omega
      rw [List.drop_of_length_le (Nat.le_refl _), goS] at hres
      have HRES := hid hres
      obtain ⟨nk, nx, nc, ns⟩ := n
      simp only [Tree.kind, Tree.text, Tree.cols, Tree.kids] at *
      obtain ⟨m0, m1, m2, m3⟩ := hx1
      obtain ⟨r0, r1, r2, r3⟩ := hx3
      obtain ⟨f0, f1, f2, f3⟩ := hx4
      clear hres hno hnv hrn hx2 hb hz CA HO
      go_wp2_with fail
      generalize hZ : ((((wr.setCell _ (.int .i64 nk)).setCell _ (.string nx)).setCell _ (.int .i64 nc)).setCell _ (.slice A' ns.length c')) = Z
      obtain ⟨⟨e0, e1, e2, e3⟩, hZs, hZB, hZo, _, hZf⟩ := fourAt (o := 0) HX3.out.1 HX3.out.2.1 HX3.out.2.2.1 HX3.out.2.2.2 _ _ _ _ hZ.symm
      simp only [Nat.zero_add] at e1 e2 e3
      have HZB := hid (hZB w.heap.size w (by omega) HB.out)
      have HZO := hid hZo
      have HZS := hid hZs
      clear hZ hZs hZB hZo hZf
      refine bodyPost_ret (v := .tuple #[.agg #[.int .i64 nk, .string nx, .int .i64 nc, .slice A' ns.length c'], .int .i64 0, .int .i64 0]) (by simp [results, Tryz.results16, go_sem, e0, e1, e2, e3]) rfl ?_
      rw [HRES.out]
      refine ⟨_, _, rfl, HRN.out.keep (fun q hq => HZO.out q ?_) (fun q hq => ?_), HZB.out⟩
      · rcases hq with hq | hq
        · have h9 : q.block < w.heap.size := HSL.out _ hq
          omega
        · omega
      · have := HZ.out
        have := HZS.out
        rcases hq with hq | hq
        · exact .inl hq
        · exact .inr ⟨by omega, by omega⟩
theorem applyAll_any (t:Tree) (ops:List OpD) (A Ao:Option Addr) (cap co:Nat) (w:World) (hv:SliceR treeE w (Lt w.heap.size) t.kids (.slice A t.kids.length cap)) (hok:NodeOk t) (hct:countS t≤900000) (ho:SliceR opE w (Lt w.heap.size) ops (.slice Ao ops.length co)) (hol:ops.length≤1000) (hcn:∀ k (hk:k < ops.length),countsS ops[k].nodes≤100000) :
  Calls Tryz.prog 16 #[.agg #[.int .i64 t.kind,.string t.text,.int .i64 t.cols,.slice A t.kids.length cap],.slice Ao ops.length co] w (ApplyAllP w (applyAllS t ops)):=by
 refine (applyAllN_any t ops A Ao cap co w (Lt w.heap.size) (fun _ h=>h) hv hok hct ho hol hcn).mono ?_
 rintro e w' ⟨v,i,rfl,h1,h2⟩
 exact ⟨v,i,rfl,h1.keep (fun _ _=>rfl) (fun q hq=>hq.elim (fun h=>Nat.lt_of_lt_of_le h h2.size) (fun h=>h.2)),h2⟩
end Go.Proofs.YtbjcioknfjofkaaGreat
