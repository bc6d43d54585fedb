/- Texts put together. -/
import Derived.Test.YthpngeboknmllaaQ86ac3e52b5
import Derived.Test.YthpngeboknmllaaQf331e7a89e
import Derived.Test.YthpngeboknmllaaQc1750c999e
import Derived.Deep.RegionHeld3
set_option linter.unusedVariables false
set_option linter.unusedSimpArgs false
namespace Go.Proofs.Ythpngeboknmllaa
open Go.RowKit
mutual
def formS:Tree→Bool
 | .mk k s c ts=>textS k s && kidsS k c ts.length && formsS k ts
def formsS (k:Int):List Tree→Bool
 | []=>true
 | .mk k' s' c' ts' :: ts=>!((k' == 1) == (k == 1)) && (textS k' s' && kidsS k' c' ts'.length && formsS k' ts') && formsS k ts
end
theorem formsS_cons (k:Int) (t:Tree) (ts:List Tree):formsS k (t :: ts) = (!((t.kind == 1) == (k == 1)) && formS t && formsS k ts):=by
 obtain ⟨k',s',c',ts'⟩:=t
 rw [formsS,formS];rfl
theorem formsS_drop (k:Int) {ts:List Tree} {i:Nat} (h:i < ts.length):formsS k (ts.drop i) = (!((ts[i].kind == 1) == (k == 1)) && formS ts[i] && formsS k (ts.drop (i + 1))):=by
 rw [List.drop_eq_getElem_cons h,formsS_cons]
theorem below_drew_of {w w':World} {B:Nat} (h:Below B w.drew w'):Below B w w':=⟨h.os,h.tape,h.output,h.size,h.block⟩
theorem slice_drew {α:Type} {E:Enc α} {w:World} {xs:List α} {v:Value} (h:SliceR E w (Lt w.heap.size) xs v):SliceR E w.drew (Lt w.drew.heap.size) xs v:=h.keep (fun _ _=>rfl) (fun _ h=>h)
set_option maxHeartbeats 2000000 in
theorem form_any (t : Tree) : ∀ (w : World) (v : Value) (_ : SliceR treeE w (Lt w.heap.size) t.kids v) (_ : t.text.size ≤ maxLen),
    Calls Try.prog 45 #[.agg #[.int .i64 t.kind, .string t.text, .int .i64 t.cols, v]] w fun e w' => e = .returned (.bool (formS t)) ∧ Below w.heap.size w w' := by
  induction t using Tree.ind with
  | h t ih =>
  obtain ⟨tk, tx, tc, ts⟩ := t
  intro w v hv htx
  simp only [Tree.kind, Tree.text, Tree.cols, Tree.kids] at *
  obtain ⟨A, cap, rs, rfl, hcap, hmax, hrd, hls⟩ := hv
  have HTX : Hid (∀ W, Calls Try.prog 55 #[.agg #[.int .i64 tk, .string tx, .int .i64 tc, .slice A ts.length cap]] W fun e w' => e = .returned (.bool (textS tk tx)) ∧ Below W.heap.size W w') := fun W => text_any tk tc tx A ts.length cap W htx
  have HKI : Hid (∀ W, Calls Try.prog 56 #[.agg #[.int .i64 tk, .string tx, .int .i64 tc, .slice A ts.length cap]] W fun e w' => e = .returned (.bool (kidsS tk tc ts.length)) ∧ Below W.heap.size W w') := fun W => kids_any tk tc tx A ts.length cap W (by omega)
  unfold maxLen at hmax
  have hlen : ts.length ≤ 9223372036854775807 := by omega
  have H : Hid (Reads w (Lt w.heap.size) A rs ∧ ListR treeE w (Lt w.heap.size) ts rs) := ⟨hrd, hls⟩
  have HC : Hid (formS (.mk tk tx tc ts) = (textS tk tx && kidsS tk tc ts.length && formsS tk ts)) := by show _ = _; rw [formS]
  generalize textS tk tx = b1 at *
  generalize kidsS tk tc ts.length = b2 at *
  have HB0 : Hid (Below w.heap.size w (w.alloc (Obj.cells #[.int .i64 tk, .string tx, .int .i64 tc, .slice A ts.length cap] 31))) := (Below.refl _ _).alloc (Nat.le_refl _) _
  have KB : Hid (∀ W, Below (w.alloc (Obj.cells #[.int .i64 tk, .string tx, .int .i64 tc, .slice A ts.length cap] 31)).heap.size (w.alloc (Obj.cells #[.int .i64 tk, .string tx, .int .i64 tc, .slice A ts.length cap] 31)) W →
      (W.cell? ⟨w.heap.size, 0, none⟩ = some (.int .i64 tk) ∧ W.cell? ⟨w.heap.size, 1, none⟩ = some (.string tx) ∧ W.cell? ⟨w.heap.size, 2, none⟩ = some (.int .i64 tc) ∧ W.cell? ⟨w.heap.size, 3, none⟩ = some (.slice A ts.length cap)) ∧ w.heap.size < W.heap.size) := by
    intro W hW
    have h := (bcell hW).1
    exact ⟨⟨(h _ 0 (by simp)).trans (by rw [World.cell?_alloc_new]; rfl), (h _ 1 (by simp)).trans (by rw [World.cell?_alloc_new]; rfl), (h _ 2 (by simp)).trans (by rw [World.cell?_alloc_new]; rfl), (h _ 3 (by simp)).trans (by rw [World.cell?_alloc_new]; rfl)⟩, by have := hW.size; simp at this; omega⟩
  clear hrd hls
  cases b1 with
  | false =>
    go_enter Try.func45, Try.ntmps45
    go_wp2_with fail
    refine (HTX.out _).mono ?_
    rintro e w1 ⟨rfl, hb1⟩
    have HB1 := hid (HB0.out.trans (hb1.mono HB0.out.size))
    clear hb1
    go_wp2_with fail
    go_ret
    exact ⟨by rw [HC.out]; rfl, HB1.out⟩
  | true =>
  cases b2 with
  | false =>
    go_enter Try.func45, Try.ntmps45
    go_wp2_with fail
    refine (HTX.out _).mono ?_
    rintro e w1 ⟨rfl, hb1⟩
    have HB1 := hid (HB0.out.trans (hb1.mono HB0.out.size))
    obtain ⟨⟨m0, m1, m2, m3⟩, z1⟩ := KB.out w1 hb1
    clear hb1
    go_wp2_with fail
    refine (HKI.out _).mono ?_
    rintro e w2 ⟨rfl, hb2⟩
    have HB2 := hid (HB1.out.trans (hb2.mono HB1.out.size))
    clear hb2
    go_wp2_with fail
    go_ret
    exact ⟨by rw [HC.out]; rfl, HB2.out⟩
  | true =>
    have HC2 : Hid (formS (.mk tk tx tc ts) = formsS tk ts) := by show _ = _; rw [HC.out]; rfl
    go_enter Try.func45, Try.ntmps45
    go_wp2_with fail
    refine (HTX.out _).mono ?_
    rintro e w1 ⟨rfl, hb1⟩
    have HB1 := hid hb1
    obtain ⟨⟨m0, m1, m2, m3⟩, z1⟩ := KB.out w1 hb1
    clear hb1
    go_wp2_with fail
    refine (HKI.out _).mono ?_
    rintro e w2 ⟨rfl, hb2⟩
    have HB2 := hid (HB1.out.trans (hb2.mono HB1.out.size))
    clear hb2 m0 m1 m2 m3 z1 HC
    go_wp2_with fail
    go_loopw [3] (fun i wr => Below (w.alloc (Obj.cells #[.int .i64 tk, .string tx, .int .i64 tc, .slice A ts.length cap] 31)).heap.size (w.alloc (Obj.cells #[.int .i64 tk, .string tx, .int .i64 tc, .slice A ts.length cap] 31)) wr ∧ ∃ (k : Nat), k ≤ ts.length ∧ i = .int .i64 k ∧ formsS tk (ts.drop k) = formsS tk ts) (fun i _ => ts.length - (intOf i).toNat)
    case atStart => exact ⟨HB2.out, 0, Nat.zero_le _, rfl, rfl⟩
    case round =>
      obtain ⟨hbr, k, hk, rfl, hrest⟩ := hrel
      have HR := hid hrest
      have hb : Below w.heap.size w wr := HB0.out.trans (hbr.mono HB0.out.size)
      have HBR := hid hbr
      obtain ⟨⟨m0, m1, m2, m3⟩, hz⟩ := KB.out wr hbr
      have HB := hid hb
      clear hrest hbr
      by_cases hlt : k < ts.length
      · obtain ⟨g, o, A', cap', rs', rfl, hg, c0, c1, c2, c3, _, _, hts, hc5, hc6, hrd', hls'⟩ := trees_at (H.out.1.keep (Same.of_below hb (Nat.le_refl _)) (Lt.mono hb.size)) (H.out.2.keep (Same.of_below hb (Nat.le_refl _)) (Lt.mono hb.size)) hlt
        have hmem : ts[k] ∈ ts := List.getElem_mem hlt
        have HT := hid (formsS_drop tk hlt)
        have hg' : g < wr.heap.size := hg
        have HV : Hid (SliceR treeE wr (Lt wr.heap.size) ts[k].kids (.slice A' ts[k].kids.length cap')) := ⟨A', cap', rs', rfl, hc5, hc6, hrd', hls'⟩
        have i0 : (k : Int) < (ts.length : Int) := by omega
        have KW : Hid (∀ W, Below wr.heap.size wr W → Below (w.alloc (Obj.cells #[.int .i64 tk, .string tx, .int .i64 tc, .slice (some ⟨g, o, none⟩) ts.length cap] 31)).heap.size (w.alloc (Obj.cells #[.int .i64 tk, .string tx, .int .i64 tc, .slice (some ⟨g, o, none⟩) ts.length cap] 31)) W ∧
            (W.cell? ⟨w.heap.size, 0, none⟩ = some (.int .i64 tk) ∧ W.cell? ⟨w.heap.size, 3, none⟩ = some (.slice (some ⟨g, o, none⟩) ts.length cap)) ∧
            (W.cell? ⟨g, o + k * 4, none⟩ = some (.int .i64 ts[k].kind) ∧ W.cell? ⟨g, o + k * 4 + 1, none⟩ = some (.string ts[k].text) ∧ W.cell? ⟨g, o + k * 4 + 2, none⟩ = some (.int .i64 ts[k].cols) ∧ W.cell? ⟨g, o + k * 4 + 3, none⟩ = some (.slice A' ts[k].kids.length cap'))) := by
          intro W hW
          have h := (bcell hW).1
          exact ⟨HBR.out.trans (hW.mono HBR.out.size), ⟨(h _ 0 hz).trans m0, (h _ 3 hz).trans m3⟩, (h _ _ hg').trans c0, (h _ _ hg').trans c1, (h _ _ hg').trans c2, (h _ _ hg').trans c3⟩
        have HIH : Hid (∀ W v, SliceR treeE W (Lt W.heap.size) ts[k].kids v → Calls Try.prog 45 #[.agg #[.int .i64 ts[k].kind, .string ts[k].text, .int .i64 ts[k].cols, v]] W fun e w' => e = .returned (.bool (formS ts[k])) ∧ Below W.heap.size W w') := fun W v hv => ih ts[k] hmem W v hv hts
        clear hrd' hls' hb hc5 hc6 hts ih
        generalize hb3 : formS ts[k] = b3 at *
        clear hb3
        cases hq1 : (ts[k].kind == 1) <;> cases hq2 : (tk == 1)
        case false.false | true.true =>
          rw [hq1, hq2] at HT
          have HF : Hid (formS (.mk tk tx tc ts) = false) := by show _ = _; rw [HC2.out, ← HR.out, HT.out]; rfl
          go_wp2_with fail
          go_quiet (fail)
          go_wp2_with fail
          go_ret
          exact ⟨by rw [HF.out]; rfl, by first | exact HB.out | exact HB.out.trans (Below.mono ⟨rfl, rfl, rfl, Nat.le_refl _, fun _ _ => rfl⟩ HB.out.size)⟩
        all_goals
          rw [hq1, hq2] at HT
          cases b3
          · have HF : Hid (formS (.mk tk tx tc ts) = false) := by show _ = _; rw [HC2.out, ← HR.out, HT.out]; rfl
            go_wp2_with fail
            go_region_held3 (fun w' => w'.cell? ⟨w.heap.size, 0, none⟩ = some (.int .i64 tk) ∧ w'.cell? ⟨w.heap.size, 3, none⟩ = some (.slice (some ⟨g, o, none⟩) ts.length cap) ∧ w'.cell? ⟨g, o + k * 4, none⟩ = some (.int .i64 ts[k].kind) ∧ w'.cell? ⟨g, o + k * 4 + 1, none⟩ = some (.string ts[k].text) ∧ w'.cell? ⟨g, o + k * 4 + 2, none⟩ = some (.int .i64 ts[k].cols) ∧ w'.cell? ⟨g, o + k * 4 + 3, none⟩ = some (.slice A' ts[k].kids.length cap')) (go_keep) (first
              | (go_at_call 45; refine (HIH.out _ _ (slice_drew HV.out)).mono ?_; rintro e w3 ⟨rfl, hb3⟩; obtain ⟨p0, ⟨p1, p2⟩, p3, p4, p5, p6⟩ := KW.out w3 (below_drew_of hb3); have HP := hid p0; clear hb3 p0))
            go_wp2_with fail
            go_ret
            exact ⟨by rw [HF.out]; rfl, HB0.out.trans (HP.out.mono HB0.out.size)⟩
          · have HF : Hid (formsS tk (ts.drop (k + 1)) = formsS tk ts) := by show _ = _; rw [← HR.out, HT.out]; rfl
            go_wp2_with fail
            go_region_held3 (fun w' => w'.cell? ⟨w.heap.size, 0, none⟩ = some (.int .i64 tk) ∧ w'.cell? ⟨w.heap.size, 3, none⟩ = some (.slice (some ⟨g, o, none⟩) ts.length cap) ∧ w'.cell? ⟨g, o + k * 4, none⟩ = some (.int .i64 ts[k].kind) ∧ w'.cell? ⟨g, o + k * 4 + 1, none⟩ = some (.string ts[k].text) ∧ w'.cell? ⟨g, o + k * 4 + 2, none⟩ = some (.int .i64 ts[k].cols) ∧ w'.cell? ⟨g, o + k * 4 + 3, none⟩ = some (.slice A' ts[k].kids.length cap')) (go_keep) (first
              | (go_at_call 45; refine (HIH.out _ _ (slice_drew HV.out)).mono ?_; rintro e w3 ⟨rfl, hb3⟩; obtain ⟨p0, ⟨p1, p2⟩, p3, p4, p5, p6⟩ := KW.out w3 (below_drew_of hb3); have HP := hid p0; clear hb3 p0))
            go_wp2_with fail
            go_roundw
            case rel => exact ⟨HP.out, k + 1, by omega, by go_num, HF.out⟩
            case measure => simp [intOf]; omega
      · have HF : Hid (formS (.mk tk tx tc ts) = true) := by show _ = _; rw [HC2.out, ← HR.out, List.drop_of_length_le (by omega), formsS]
        go_wp2_with fail
        go_ret
        exact ⟨by rw [HF.out]; rfl, HB.out⟩
end Go.Proofs.Ythpngeboknmllaa
