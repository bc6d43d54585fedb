/- Texts put together. -/
import Derived.Test.YtbjcioknfjofkaaGreatQ85a724815b
import Derived.Test.YtbjcioknfjofkaaGreatQb1399439dd
import Derived.Test.YtbjcioknfjofkaaGreatQ770508cffb
import Derived.Test.YtbjcioknfjofkaaGreatQa9e045a34c
import Derived.Test.YtbjcioknfjofkaaGreatQ903ac69577
import Derived.Deep.RegionHeld3
import Derived.Lib.Strings
import Derived.Deep.QuietTactic
import Derived.BigQuiet
import Derived.Deep.DeepCutAuto
set_option linter.unusedVariables false
set_option linter.unusedSimpArgs false
set_option maxRecDepth 100000
namespace Go.Proofs.YtbjcioknfjofkaaGreat
open Go.RowKit
mutual
def formS:Tree→Bool
 | .mk k s c ts=>textS k s && kidsS k c ts.length && formsS k ts
def formsS (k:Int):List Tree→Bool
 | []=>true
 | .mk k' s' c' ts' :: ts=>!((k' == 1) == (k == 1)) && (textS k' s' && kidsS k' c' ts'.length && formsS k' ts') && formsS k ts
end
theorem formsS_cons (k:Int) (t:Tree) (ts:List Tree):formsS k (t :: ts) = (!((t.kind == 1) == (k == 1)) && formS t && formsS k ts):=by
 obtain ⟨k',s',c',ts'⟩:=t
 rw [formsS,formS];rfl
theorem formsS_drop (k:Int) {ts:List Tree} {i:Nat} (h:i < ts.length):formsS k (ts.drop i) = (!((ts[i].kind == 1) == (k == 1)) && formS ts[i] && formsS k (ts.drop (i + 1))):=by
 rw [List.drop_eq_getElem_cons h,formsS_cons]
theorem below_drew_of {w w':World} {B:Nat} (h:Below B w.drew w'):Below B w w':=⟨h.os,h.tape,h.output,h.size,h.block⟩
theorem slice_drew {α:Type} {E:Enc α} {w:World} {xs:List α} {v:Value} (h:SliceR E w (Lt w.heap.size) xs v):SliceR E w.drew (Lt w.drew.heap.size) xs v:=h.keep (fun _ _=>rfl) (fun _ h=>h)
set_option maxHeartbeats 2000000 in
theorem form_any (t : Tree) : ∀ (w : World) (v : Value) (_ : SliceR treeE w (Lt w.heap.size) t.kids v) (_ : t.text.size ≤ maxLen),
    Calls Tryz.prog 65 #[.agg #[.int .i64 t.kind, .string t.text, .int .i64 t.cols, v]] w fun e w' => e = .returned (.bool (formS t)) ∧ Below w.heap.size w w' := by
  induction t using Tree.ind with
  | h t ih =>
  obtain ⟨tk, tx, tc, ts⟩ := t
  intro w v hv htx
  simp only [Tree.kind, Tree.text, Tree.cols, Tree.kids] at *
  obtain ⟨A, cap, rs, rfl, hcap, hmax, hrd, hls⟩ := hv
  have HTX : Hid (∀ W, Calls Tryz.prog 101 #[.agg #[.int .i64 tk, .string tx, .int .i64 tc, .slice A ts.length cap]] W fun e w' => e = .returned (.bool (textS tk tx)) ∧ Below W.heap.size W w') := fun W => text_any tk tc tx A ts.length cap W htx
  have HKI : Hid (∀ W, Calls Tryz.prog 102 #[.agg #[.int .i64 tk, .string tx, .int .i64 tc, .slice A ts.length cap]] W fun e w' => e = .returned (.bool (kidsS tk tc ts.length)) ∧ Below W.heap.size W w') := fun W => kids_any tk tc tx A ts.length cap W (by omega)
  unfold maxLen at hmax
  have hlen : ts.length ≤ 9223372036854775807 := by omega
  have H : Hid (Reads w (Lt w.heap.size) A rs ∧ ListR treeE w (Lt w.heap.size) ts rs) := ⟨hrd, hls⟩
  have HC : Hid (formS (.mk tk tx tc ts) = (textS tk tx && kidsS tk tc ts.length && formsS tk ts)) := by show _ = _; rw [formS]
  generalize textS tk tx = b1 at *
  generalize kidsS tk tc ts.length = b2 at *
  have HB0 : Hid (Below w.heap.size w (w.alloc (Obj.cells #[.int .i64 tk, .string tx, .int .i64 tc, .slice A ts.length cap] 24))) := (Below.refl _ _).alloc (Nat.le_refl _) _
  have KB : Hid (∀ W, Below (w.alloc (Obj.cells #[.int .i64 tk, .string tx, .int .i64 tc, .slice A ts.length cap] 24)).heap.size (w.alloc (Obj.cells #[.int .i64 tk, .string tx, .int .i64 tc, .slice A ts.length cap] 24)) W →
      (W.cell? ⟨w.heap.size, 0, none⟩ = some (.int .i64 tk) ∧ W.cell? ⟨w.heap.size, 1, none⟩ = some (.string tx) ∧ W.cell? ⟨w.heap.size, 2, none⟩ = some (.int .i64 tc) ∧ W.cell? ⟨w.heap.size, 3, none⟩ = some (.slice A ts.length cap)) ∧ w.heap.size < W.heap.size) := by
    intro W hW
    have h := (bcell hW).1
    exact ⟨⟨(h _ 0 (by simp)).trans (by rw [World.cell?_alloc_new]; rfl), (h _ 1 (by simp)).trans (by rw [World.cell?_alloc_new]; rfl), (h _ 2 (by simp)).trans (by rw [World.cell?_alloc_new]; rfl), (h _ 3 (by simp)).trans (by rw [World.cell?_alloc_new]; rfl)⟩, by have := hW.size; simp at this; omega⟩
  clear hrd hls
  cases b1 with
  | false =>
    go_enter Tryz.func65, Tryz.ntmps65
    go_wp2_with fail
    refine (HTX.out _).mono ?_
    rintro e w1 ⟨rfl, hb1⟩
    have HB1 := hid (HB0.out.trans (hb1.mono HB0.out.size))
    clear hb1
    go_wp2_with fail
    go_ret
    exact ⟨by rw [HC.out]; rfl, HB1.out⟩
  | true =>
  cases b2 with
  | false =>
    go_enter Tryz.func65, Tryz.ntmps65
    go_wp2_with fail
    refine (HTX.out _).mono ?_
    rintro e w1 ⟨rfl, hb1⟩
    have HB1 := hid (HB0.out.trans (hb1.mono HB0.out.size))
    obtain ⟨⟨m0, m1, m2, m3⟩, z1⟩ := KB.out w1 hb1
    clear hb1
    go_wp2_with fail
    refine (HKI.out _).mono ?_
    rintro e w2 ⟨rfl, hb2⟩
    have HB2 := hid (HB1.out.trans (hb2.mono HB1.out.size))
    clear hb2
    go_wp2_with fail
    go_ret
    exact ⟨by rw [HC.out]; rfl, HB2.out⟩
  | true =>
    have HC2 : Hid (formS (.mk tk tx tc ts) = formsS tk ts) := by show _ = _; rw [HC.out]; rfl
    go_enter Tryz.func65, Tryz.ntmps65
    go_wp2_with fail
    refine (HTX.out _).mono ?_
    rintro e w1 ⟨rfl, hb1⟩
    have HB1 := hid hb1
    obtain ⟨⟨m0, m1, m2, m3⟩, z1⟩ := KB.out w1 hb1
    clear hb1
    go_wp2_with fail
    refine (HKI.out _).mono ?_
    rintro e w2 ⟨rfl, hb2⟩
    have HB2 := hid (HB1.out.trans (hb2.mono HB1.out.size))
    clear hb2 m0 m1 m2 m3 z1 HC
    go_wp2_with fail
    go_loopw [3] (fun i wr => Below (w.alloc (Obj.cells #[.int .i64 tk, .string tx, .int .i64 tc, .slice A ts.length cap] 24)).heap.size (w.alloc (Obj.cells #[.int .i64 tk, .string tx, .int .i64 tc, .slice A ts.length cap] 24)) wr ∧ ∃ (k : Nat), k ≤ ts.length ∧ i = .int .i64 k ∧ formsS tk (ts.drop k) = formsS tk ts) (fun i _ => ts.length - (intOf i).toNat)
    case atStart => exact ⟨HB2.out, 0, Nat.zero_le _, rfl, rfl⟩
    case round =>
      obtain ⟨hbr, k, hk, rfl, hrest⟩ := hrel
      have HR := hid hrest
      have hb : Below w.heap.size w wr := HB0.out.trans (hbr.mono HB0.out.size)
      have HBR := hid hbr
      obtain ⟨⟨m0, m1, m2, m3⟩, hz⟩ := KB.out wr hbr
      have HB := hid hb
      clear hrest hbr
      by_cases hlt : k < ts.length
      · obtain ⟨g, o, A', cap', rs', rfl, hg, c0, c1, c2, c3, _, _, hts, hc5, hc6, hrd', hls'⟩ := trees_at (H.out.1.keep (Same.of_below hb (Nat.le_refl _)) (Lt.mono hb.size)) (H.out.2.keep (Same.of_below hb (Nat.le_refl _)) (Lt.mono hb.size)) hlt
        have hmem : ts[k] ∈ ts := List.getElem_mem hlt
        have HT := hid (formsS_drop tk hlt)
        have hg' : g < wr.heap.size := hg
        have HV : Hid (SliceR treeE wr (Lt wr.heap.size) ts[k].kids (.slice A' ts[k].kids.length cap')) := ⟨A', cap', rs', rfl, hc5, hc6, hrd', hls'⟩
        have i0 : (k : Int) < (ts.length : Int) := by omega
        have KW : Hid (∀ W, Below wr.heap.size wr W → Below (w.alloc (Obj.cells #[.int .i64 tk, .string tx, .int .i64 tc, .slice (some ⟨g, o, none⟩) ts.length cap] 24)).heap.size (w.alloc (Obj.cells #[.int .i64 tk, .string tx, .int .i64 tc, .slice (some ⟨g, o, none⟩) ts.length cap] 24)) W ∧
            (W.cell? ⟨w.heap.size, 0, none⟩ = some (.int .i64 tk) ∧ W.cell? ⟨w.heap.size, 3, none⟩ = some (.slice (some ⟨g, o, none⟩) ts.length cap)) ∧
            (W.cell? ⟨g, o + k * 4, none⟩ = some (.int .i64 ts[k].kind) ∧ W.cell? ⟨g, o + k * 4 + 1, none⟩ = some (.string ts[k].text) ∧ W.cell? ⟨g, o + k * 4 + 2, none⟩ = some (.int .i64 ts[k].cols) ∧ W.cell? ⟨g, o + k * 4 + 3, none⟩ = some (.slice A' ts[k].kids.length cap'))) := by
          intro W hW
          have h := (bcell hW).1
          exact ⟨HBR.out.trans (hW.mono HBR.out.size), ⟨(h _ 0 hz).trans m0, (h _ 3 hz).trans m3⟩, (h _ _ hg').trans c0, (h _ _ hg').trans c1, (h _ _ hg').trans c2, (h _ _ hg').trans c3⟩
        have HIH : Hid (∀ W v, SliceR treeE W (Lt W.heap.size) ts[k].kids v → Calls Tryz.prog 65 #[.agg #[.int .i64 ts[k].kind, .string ts[k].text, .int .i64 ts[k].cols, v]] W fun e w' => e = .returned (.bool (formS ts[k])) ∧ Below W.heap.size W w') := fun W v hv => ih ts[k] hmem W v hv hts
        clear hrd' hls' hb hc5 hc6 hts ih
        generalize hb3 : formS ts[k] = b3 at *
        clear hb3
        cases hq1 : (ts[k].kind == 1) <;> cases hq2 : (tk == 1)
        case false.false | true.true =>
          rw [hq1, hq2] at HT
          have HF : Hid (formS (.mk tk tx tc ts) = false) := by show _ = _; rw [HC2.out, ← HR.out, HT.out]; rfl
          go_wp2_with fail
          go_quiet (fail)
          go_wp2_with fail
          go_ret
          exact ⟨by rw [HF.out]; rfl, by first | exact HB.out | exact HB.out.trans (Below.mono ⟨rfl, rfl, rfl, Nat.le_refl _, fun _ _ => rfl⟩ HB.out.size)⟩
        all_goals
          rw [hq1, hq2] at HT
          cases b3
          · have HF : Hid (formS (.mk tk tx tc ts) = false) := by show _ = _; rw [HC2.out, ← HR.out, HT.out]; rfl
            go_wp2_with fail
            go_region_held3 (fun w' => w'.cell? ⟨w.heap.size, 0, none⟩ = some (.int .i64 tk) ∧ w'.cell? ⟨w.heap.size, 3, none⟩ = some (.slice (some ⟨g, o, none⟩) ts.length cap) ∧ w'.cell? ⟨g, o + k * 4, none⟩ = some (.int .i64 ts[k].kind) ∧ w'.cell? ⟨g, o + k * 4 + 1, none⟩ = some (.string ts[k].text) ∧ w'.cell? ⟨g, o + k * 4 + 2, none⟩ = some (.int .i64 ts[k].cols) ∧ w'.cell? ⟨g, o + k * 4 + 3, none⟩ = some (.slice A' ts[k].kids.length cap')) (go_keep) (first
              | (go_at_call 65; refine (HIH.out _ _ (slice_drew HV.out)).mono ?_; rintro e w3 ⟨rfl, hb3⟩; obtain ⟨p0, ⟨p1, p2⟩, p3, p4, p5, p6⟩ := KW.out w3 (below_drew_of hb3); have HP := hid p0; clear hb3 p0))
            go_wp2_with fail
            go_ret
            exact ⟨by rw [HF.out]; rfl, HB0.out.trans (HP.out.mono HB0.out.size)⟩
          · have HF : Hid (formsS tk (ts.drop (k + 1)) = formsS tk ts) := by show _ = _; rw [← HR.out, HT.out]; rfl
            go_wp2_with fail
            go_region_held3 (fun w' => w'.cell? ⟨w.heap.size, 0, none⟩ = some (.int .i64 tk) ∧ w'.cell? ⟨w.heap.size, 3, none⟩ = some (.slice (some ⟨g, o, none⟩) ts.length cap) ∧ w'.cell? ⟨g, o + k * 4, none⟩ = some (.int .i64 ts[k].kind) ∧ w'.cell? ⟨g, o + k * 4 + 1, none⟩ = some (.string ts[k].text) ∧ w'.cell? ⟨g, o + k * 4 + 2, none⟩ = some (.int .i64 ts[k].cols) ∧ w'.cell? ⟨g, o + k * 4 + 3, none⟩ = some (.slice A' ts[k].kids.length cap')) (go_keep) (first
              | (go_at_call 65; refine (HIH.out _ _ (slice_drew HV.out)).mono ?_; rintro e w3 ⟨rfl, hb3⟩; obtain ⟨p0, ⟨p1, p2⟩, p3, p4, p5, p6⟩ := KW.out w3 (below_drew_of hb3); have HP := hid p0; clear hb3 p0))
            go_wp2_with fail
            go_roundw
            case rel => exact ⟨HP.out, k + 1, by omega, by go_num, HF.out⟩
            case measure => simp [intOf]; omega
      · have HF : Hid (formS (.mk tk tx tc ts) = true) := by show _ = _; rw [HC2.out, ← HR.out, List.drop_of_length_le (by omega), formsS]
        go_wp2_with fail
        go_ret
        exact ⟨by rw [HF.out]; rfl, HB.out⟩
theorem toList_inj {s t:ByteArray}:s.toList = t.toList ↔ s = t:=by
 constructor
 ·intro h
  rw [Lib.toList_data,Lib.toList_data] at h
  exact ByteArray.ext (Array.toList_inj.1 h)
 ·intro h;rw [h]
mutual
def eqS:Tree→Tree→Bool
 | .mk k s c ts,.mk k' s' c' us=>k == k' && (s.toList == s'.toList && (c == c' && (ts.length == us.length && eqsS ts us)))
def eqsS:List Tree→List Tree→Bool
 | t :: ts,u :: us=>eqS t u && eqsS ts us
 | _,_=>true
end
theorem eqsS_drop {ts us:List Tree} {i:Nat} (h:i < ts.length) (h':i < us.length):eqsS (ts.drop i) (us.drop i) = (eqS ts[i] us[i] && eqsS (ts.drop (i + 1)) (us.drop (i + 1))):=by
 rw [List.drop_eq_getElem_cons h,List.drop_eq_getElem_cons h',eqsS]
mutual
theorem eqS_iff : (t u : Tree) → (eqS t u = true ↔ t = u)
  | .mk k s c ts, .mk k' s' c' us => by
    unfold eqS
    have h := eqsS_iff ts us
    simp only [Bool.and_eq_true, beq_iff_eq, Tree.mk.injEq, h, toList_inj]
theorem eqsS_iff : (ts us : List Tree) → ((ts.length = us.length ∧ eqsS ts us = true) ↔ ts = us)
  | [], [] => by simp [eqsS]
  | [], u :: us => by simp
  | t :: ts, [] => by simp
  | t :: ts, u :: us => by
    have h1 := eqS_iff t u
    have h2 := eqsS_iff ts us
    simp only [eqsS, List.length_cons, Bool.and_eq_true, List.cons.injEq, Nat.add_right_cancel_iff, ← h2, h1]
    constructor <;> (rintro ⟨a, b, c⟩; exact ⟨b, a, c⟩)
end
set_option maxHeartbeats 1000000 in
theorem same_of (xs ys:List Tree) (w:World) (A A':Option Addr) (cap cap':Nat) (hv:SliceR treeE w (Lt w.heap.size) xs (.slice A xs.length cap)) (hu:SliceR treeE w (Lt w.heap.size) ys (.slice A' ys.length cap'))
  (hE:∀ t ∈ xs,∀ (u:Tree) (W:World) (v1 v2:Value),SliceR treeE W (Lt W.heap.size) t.kids v1→SliceR treeE W (Lt W.heap.size) u.kids v2 →
   Calls Tryz.prog 22 #[.agg #[.int .i64 t.kind,.string t.text,.int .i64 t.cols,v1],.agg #[.int .i64 u.kind,.string u.text,.int .i64 u.cols,v2]] W fun e w'=>e = .returned (.bool (eqS t u))∧Below W.heap.size W w') :
  Calls Tryz.prog 53 #[.slice A xs.length cap,.slice A' ys.length cap'] w fun e w'=>e = .returned (.bool (xs.length == ys.length && eqsS xs ys))∧Below w.heap.size w w':=by
 obtain ⟨_,_,rs,hq,hcap,hmax,hrd,hls⟩:=hv
 cases hq
 obtain ⟨_,_,rs',hq,hcap',hmax',hrd',hls'⟩:=hu
 cases hq
 unfold maxLen at hmax hmax'
 have H:Hid (Reads w (Lt w.heap.size) A rs∧ListR treeE w (Lt w.heap.size) xs rs):=⟨hrd,hls⟩
 have H':Hid (Reads w (Lt w.heap.size) A' rs'∧ListR treeE w (Lt w.heap.size) ys rs'):=⟨hrd',hls'⟩
 clear hrd hls hrd' hls'
 have l0:xs.length≤9223372036854775807:=by omega
 have l1:ys.length≤9223372036854775807:=by omega
 by_cases hl:xs.length = ys.length
 ·have b0:((xs.length:Int) != (ys.length:Int)) = false:=by simp [hl]
  have b1:((xs.length:Int) == (ys.length:Int)) = true:=by simp [hl]
  have b2:decide ((xs.length:Int) = (ys.length:Int)) = true:=by simp [hl]
  have HF:Hid ((xs.length == ys.length && eqsS xs ys) = eqsS xs ys):=by show _ = _;simp [hl]
  rw [HF.out]
  clear HF
  have HL:=hid hl
  have hE':=hid hE
  clear hE hl
  go_enter Tryz.func53,Tryz.ntmps53
  go_wp2_with fail
  go_loopw [5] (fun i wr=>Below w.heap.size w wr∧∃ (k:Nat),k≤xs.length∧i = .int .i64 k∧eqsS (xs.drop k) (ys.drop k) = eqsS xs ys) (fun i _=>xs.length - (intOf i).toNat)
  case atStart=>exact ⟨Below.refl _ _,0,Nat.zero_le _,rfl,rfl⟩
  case round =>
   obtain ⟨hb,k,hk,rfl,hrest⟩:=hrel
   have HR:=hid hrest
   have HB:=hid hb
   clear hrest
   by_cases hlt:k < xs.length
   ·have hlt':k < ys.length:=by have:=HL.out;omega
    obtain ⟨g,o,B,bc,bs,rfl,hg,c0,c1,c2,c3,_,_,_,hc5,hc6,hrd,hls⟩:=trees_at (H.out.1.keep (Same.of_below hb (Nat.le_refl _)) (Lt.mono hb.size)) (H.out.2.keep (Same.of_below hb (Nat.le_refl _)) (Lt.mono hb.size)) hlt
    obtain ⟨g',o',B',bc',bs',rfl,hg',d0,d1,d2,d3,_,_,_,hd5,hd6,hrd',hls'⟩:=trees_at (H'.out.1.keep (Same.of_below hb (Nat.le_refl _)) (Lt.mono hb.size)) (H'.out.2.keep (Same.of_below hb (Nat.le_refl _)) (Lt.mono hb.size)) hlt'
    have hg1:g < wr.heap.size:=hg
    have hg2:g' < wr.heap.size:=hg'
    have hmem:xs[k] ∈ xs:=List.getElem_mem hlt
    have HT:=hid (eqsS_drop hlt hlt')
    have HV:Hid (SliceR treeE wr (Lt wr.heap.size) xs[k].kids (.slice B xs[k].kids.length bc)):=⟨B,bc,bs,rfl,hc5,hc6,hrd,hls⟩
    have HV':Hid (SliceR treeE wr (Lt wr.heap.size) ys[k].kids (.slice B' ys[k].kids.length bc')):=⟨B',bc',bs',rfl,hd5,hd6,hrd',hls'⟩
    have HC:Hid (Calls Tryz.prog 22 #[.agg #[.int .i64 xs[k].kind,.string xs[k].text,.int .i64 xs[k].cols,.slice B xs[k].kids.length bc],.agg #[.int .i64 ys[k].kind,.string ys[k].text,.int .i64 ys[k].cols,.slice B' ys[k].kids.length bc']] wr.drew fun e w'=>e = .returned (.bool (eqS xs[k] ys[k]))∧Below wr.drew.heap.size wr.drew w') :=
     hE'.out _ hmem ys[k] _ _ _ (slice_drew HV.out) (slice_drew HV'.out)
    have KW:Hid (∀ W,Below wr.heap.size wr W→Below w.heap.size w W ∧
      (W.cell? ⟨g,o + k * 4,none⟩ = some (.int .i64 xs[k].kind)∧W.cell? ⟨g,o + k * 4 + 1,none⟩ = some (.string xs[k].text)∧W.cell? ⟨g,o + k * 4 + 2,none⟩ = some (.int .i64 xs[k].cols)∧W.cell? ⟨g,o + k * 4 + 3,none⟩ = some (.slice B xs[k].kids.length bc)) ∧
      (W.cell? ⟨g',o' + k * 4,none⟩ = some (.int .i64 ys[k].kind)∧W.cell? ⟨g',o' + k * 4 + 1,none⟩ = some (.string ys[k].text)∧W.cell? ⟨g',o' + k * 4 + 2,none⟩ = some (.int .i64 ys[k].cols)∧W.cell? ⟨g',o' + k * 4 + 3,none⟩ = some (.slice B' ys[k].kids.length bc'))):=by
     intro W hW
     have h:=(bcell hW).1
     exact ⟨HB.out.trans (hW.mono HB.out.size),⟨(h _ _ hg1).trans c0,(h _ _ hg1).trans c1,(h _ _ hg1).trans c2,(h _ _ hg1).trans c3⟩,(h _ _ hg2).trans d0,(h _ _ hg2).trans d1,(h _ _ hg2).trans d2,(h _ _ hg2).trans d3⟩
    have i0:(k:Int) < (xs.length:Int):=by omega
    clear hrd hls hrd' hls' hb hc5 hc6 hd5 hd6 hE' b0 b1 b2
    generalize hb3:eqS xs[k] ys[k] = b3 at *
    clear hb3
    cases b3
    ·have HF:Hid (eqsS xs ys = false):=by show _ = _;rw [← HR.out,HT.out];rfl
     go_wp2_with fail
     go_region_held3 (fun w'=>w'.cell? ⟨g,o + k * 4,none⟩ = some (.int .i64 xs[k].kind)∧w'.cell? ⟨g,o + k * 4 + 1,none⟩ = some (.string xs[k].text)∧w'.cell? ⟨g,o + k * 4 + 2,none⟩ = some (.int .i64 xs[k].cols)∧w'.cell? ⟨g,o + k * 4 + 3,none⟩ = some (.slice B xs[k].kids.length bc)∧w'.cell? ⟨g',o' + k * 4,none⟩ = some (.int .i64 ys[k].kind)∧w'.cell? ⟨g',o' + k * 4 + 1,none⟩ = some (.string ys[k].text)∧w'.cell? ⟨g',o' + k * 4 + 2,none⟩ = some (.int .i64 ys[k].cols)∧w'.cell? ⟨g',o' + k * 4 + 3,none⟩ = some (.slice B' ys[k].kids.length bc')) (go_keep) (first
      | (go_at_call 22;refine HC.out.mono ?_;rintro e w3 ⟨rfl,hb3⟩;obtain ⟨p0,⟨p1,p2,p3,p4⟩,p5,p6,p7,p8⟩:=KW.out w3 (below_drew_of hb3);have HP:=hid p0;clear hb3 p0))
     go_wp2_with fail
     go_ret
     exact ⟨by rw [HF.out];rfl,HP.out⟩
    ·have HF:Hid (eqsS (xs.drop (k + 1)) (ys.drop (k + 1)) = eqsS xs ys):=by show _ = _;rw [← HR.out,HT.out];rfl
     go_wp2_with fail
     go_region_held3 (fun w'=>w'.cell? ⟨g,o + k * 4,none⟩ = some (.int .i64 xs[k].kind)∧w'.cell? ⟨g,o + k * 4 + 1,none⟩ = some (.string xs[k].text)∧w'.cell? ⟨g,o + k * 4 + 2,none⟩ = some (.int .i64 xs[k].cols)∧w'.cell? ⟨g,o + k * 4 + 3,none⟩ = some (.slice B xs[k].kids.length bc)∧w'.cell? ⟨g',o' + k * 4,none⟩ = some (.int .i64 ys[k].kind)∧w'.cell? ⟨g',o' + k * 4 + 1,none⟩ = some (.string ys[k].text)∧w'.cell? ⟨g',o' + k * 4 + 2,none⟩ = some (.int .i64 ys[k].cols)∧w'.cell? ⟨g',o' + k * 4 + 3,none⟩ = some (.slice B' ys[k].kids.length bc')) (go_keep) (first
      | (go_at_call 22;refine HC.out.mono ?_;rintro e w3 ⟨rfl,hb3⟩;obtain ⟨p0,⟨p1,p2,p3,p4⟩,p5,p6,p7,p8⟩:=KW.out w3 (below_drew_of hb3);have HP:=hid p0;clear hb3 p0))
     go_wp2_with fail
     go_roundw
     case rel=>exact ⟨HP.out,k + 1,by omega,by go_num,HF.out⟩
     case measure=>simp [intOf];omega
   ·have HF:Hid (eqsS xs ys = true):=by show _ = _;rw [← HR.out,List.drop_of_length_le (by omega),eqsS];simp
    clear hb
    go_wp2_with fail
    go_ret
    exact ⟨by rw [HF.out];rfl,HB.out⟩
 ·have b0:((xs.length:Int) != (ys.length:Int)) = true:=by simp;omega
  have b1:((xs.length:Int) == (ys.length:Int)) = false:=by simp;omega
  have b2:decide ((xs.length:Int) = (ys.length:Int)) = false:=by simp;omega
  have HF:Hid ((xs.length == ys.length && eqsS xs ys) = false):=by show _ = _;simp [hl]
  clear hE
  go_enter Tryz.func53,Tryz.ntmps53
  go_wp2_with fail
  go_ret
  exact ⟨by rw [HF.out];rfl,Below.refl _ _⟩
set_option maxHeartbeats 1000000 in
theorem equal_any (t:Tree):∀ (u:Tree) (w:World) (a b:Value) (_:SliceR treeE w (Lt w.heap.size) t.kids a) (_:SliceR treeE w (Lt w.heap.size) u.kids b),
  Calls Tryz.prog 22 #[.agg #[.int .i64 t.kind,.string t.text,.int .i64 t.cols,a],.agg #[.int .i64 u.kind,.string u.text,.int .i64 u.cols,b]] w fun e w'=>e = .returned (.bool (eqS t u))∧Below w.heap.size w w':=by
 induction t using Tree.ind with
 | h t ih =>
 obtain ⟨tk,tx,tc,ts⟩:=t
 intro u w a b ha hb
 obtain ⟨uk,ux,uc,us⟩:=u
 simp only [Tree.kind,Tree.text,Tree.cols,Tree.kids] at *
 have HA:=hid ha
 have HB:=hid hb
 obtain ⟨A,cap,_,rfl,_,_,_,_⟩:=ha
 obtain ⟨A',cap',_,rfl,_,_,_,_⟩:=hb
 rename_i h1 h2 h3 h4 h5 h6 h7 h8
 clear h1 h2 h3 h4 h5 h6 h7 h8
 have HC:Hid (∀ W,Below w.heap.size w W→Calls Tryz.prog 53 #[.slice A ts.length cap,.slice A' us.length cap'] W fun e w'=>e = .returned (.bool (ts.length == us.length && eqsS ts us))∧Below W.heap.size W w') :=
  fun W hW=>same_of ts us W A A' cap cap' (HA.out.below hW hW.size) (HB.out.below hW hW.size) ih
 have HE:Hid (eqS (.mk tk tx tc ts) (.mk uk ux uc us) = (tk == uk && (tx.toList == ux.toList && (tc == uc && (ts.length == us.length && eqsS ts us))))):=by show _ = _;rw [eqS]
 rw [HE.out]
 clear HE ih HA HB
 have HW:Hid (Below w.heap.size w ((w.alloc (Obj.cells #[Value.int IntKind.i64 tk,Value.string tx,Value.int IntKind.i64 tc,.slice A ts.length cap] 24)).alloc
   (Obj.cells #[Value.int IntKind.i64 uk,Value.string ux,Value.int IntKind.i64 uc,.slice A' us.length cap'] 24))):=((Below.refl _ _).alloc (Nat.le_refl _) _).alloc (by simp) _
 generalize hq:(ts.length == us.length && eqsS ts us) = b at *
 clear hq
 generalize hq1:(tk == uk) = b1 at *
 generalize hq2:(tx.toList == ux.toList) = b2 at *
 generalize hq3:(tc == uc) = b3 at *
 have hd1:decide (tk = uk) = b1:=by rw [← hq1];simp [Bool.beq_eq_decide_eq]
 have hd3:decide (tc = uc) = b3:=by rw [← hq3];simp [Bool.beq_eq_decide_eq]
 cases b1
 ·go_enter Tryz.func22,Tryz.ntmps22
  go_wp2_with fail
  go_ret
  exact ⟨by rfl,HW.out⟩
 cases b2
 ·go_enter Tryz.func22,Tryz.ntmps22
  go_wp2_with fail
  go_ret
  exact ⟨by rfl,HW.out⟩
 cases b3
 ·go_enter Tryz.func22,Tryz.ntmps22
  go_wp2_with fail
  go_ret
  exact ⟨by rfl,HW.out⟩
 go_enter Tryz.func22,Tryz.ntmps22
 go_wp2_with fail
 refine (HC.out _ HW.out).mono ?_
 rintro e w3 ⟨rfl,hb3⟩
 have HP:=hid (HW.out.trans (hb3.mono HW.out.size))
 clear hb3 HW
 go_wp2_with fail
 go_ret
 exact ⟨by rfl,HP.out⟩
end Go.Proofs.YtbjcioknfjofkaaGreat
namespace Go.Proofs.YtbjcioknfjofkaaGreat
theorem Tree.ind' {P : Tree → Prop} (h : ∀ t : Tree, (∀ k ∈ t.kids, ∀ u ∈ k.kids, P u) → P t) : ∀ t, P t := by
  intro t
  have : ∀ (n : Nat) (t : Tree), countS t ≤ n → P t := by
    intro n
    induction n with
    | zero => intro t ht; have : 0 < countS t := by cases t; rw [countS]; omega
              omega
    | succ n ih =>
      intro t ht
      have key : ∀ (ts : List Tree), ∀ k ∈ ts, countS k ≤ countsS ts := by
        intro ts
        induction ts with
        | nil => simp
        | cons u us ih => intro k hk; rw [countsS]; rcases List.mem_cons.1 hk with rfl | hk
                          · omega
                          · have := ih k hk; omega
      refine h t fun k hk u hu => ih u ?_
      cases t with
      | mk a b c ts => cases k with
        | mk a' b' c' us =>
        rw [countS] at ht
        have h1 := key ts _ hk
        rw [countS] at h1
        have h2 := key us u hu
        omega
  exact this _ t (Nat.le_refl _)
mutual
def allS (path:List Int):Tree→List (List Int)
 | .mk _ _ _ ts=>itemsS path 0 ts
def itemsS (path:List Int) (i:Nat):List Tree→List (List Int)
 | []=>[path ++ [(i:Int)]]
 | .mk _ _ _ us :: ts=>(path ++ [(i:Int)]) :: (slotsS path i 0 us ++ itemsS path (i + 1) ts)
def slotsS (path:List Int) (i k:Nat):List Tree→List (List Int)
 | []=>[]
 | u :: us=>allS (path ++ [(i:Int),(k:Int)]) u ++ slotsS path i (k + 1) us
end
theorem allS_eq (path:List Int) (t:Tree):allS path t = itemsS path 0 t.kids:=by cases t;rw [allS];rfl
theorem itemsS_cons (path:List Int) (i:Nat) (t:Tree) (ts:List Tree):itemsS path i (t :: ts) = (path ++ [(i:Int)]) :: (slotsS path i 0 t.kids ++ itemsS path (i + 1) ts):=by cases t;rw [itemsS];rfl
def posIn : Tree → List Int → Bool
  | t, i :: k :: p =>
    if hi : 0 ≤ i ∧ i.toNat < t.kids.length then
      if hk : 0 ≤ k ∧ k.toNat < (t.kids[i.toNat]'hi.2).kids.length then posIn ((t.kids[i.toNat]'hi.2).kids[k.toNat]'hk.2) p else false
    else false
  | t, [i] => decide (0 ≤ i ∧ i ≤ t.kids.length)
  | _, [] => false
theorem mem_slots (path : List Int) (i : Nat) (q : List Int) : ∀ (us : List Tree) (k : Nat), q ∈ slotsS path i k us ↔ ∃ (j : Nat) (h : j < us.length), q ∈ allS (path ++ [(i : Int), ((k + j : Nat) : Int)]) us[j] := by
  intro us
  induction us with
  | nil => intro k; simp [slotsS]
  | cons u us ih =>
    intro k
    rw [slotsS, List.mem_append, ih]
    constructor
    · rintro (h | ⟨j, h, hq⟩)
      · exact ⟨0, by simp, by simpa using h⟩
      · refine ⟨j + 1, by simpa using h, ?_⟩
        rw [show k + (j + 1) = k + 1 + j by omega]; simpa using hq
    · rintro ⟨j, h, hq⟩
      cases j with
      | zero => left; simpa using hq
      | succ j => right; refine ⟨j, by simpa using h, ?_⟩; rw [show k + 1 + j = k + (j + 1) by omega]; simpa using hq
theorem mem_items (path : List Int) (q : List Int) : ∀ (ts : List Tree) (i : Nat), q ∈ itemsS path i ts ↔ (∃ j, j ≤ ts.length ∧ q = path ++ [((i + j : Nat) : Int)]) ∨ ∃ (j : Nat) (h : j < ts.length), q ∈ slotsS path (i + j) 0 ts[j].kids := by
  intro ts
  induction ts with
  | nil =>
    intro i
    simp only [itemsS, List.mem_singleton, List.length_nil]
    constructor
    · intro h; exact .inl ⟨0, Nat.le_refl _, h⟩
    · rintro (⟨j, hj, h⟩ | ⟨j, hj, _⟩)
      · obtain rfl : j = 0 := by omega
        exact h
      · omega
  | cons t ts ih =>
    intro i
    rw [itemsS_cons, List.mem_cons, List.mem_append, ih]
    constructor
    · rintro (h | h | ⟨j, hj, h⟩ | ⟨j, hj, h⟩)
      · exact .inl ⟨0, by simp, h⟩
      · exact .inr ⟨0, by simp, by simpa using h⟩
      · exact .inl ⟨j + 1, by simpa using hj, by rw [h, show i + (j + 1) = i + 1 + j by omega]⟩
      · refine .inr ⟨j + 1, by simpa using hj, ?_⟩
        rw [show i + (j + 1) = i + 1 + j by omega]; simpa using h
    · rintro (⟨j, hj, h⟩ | ⟨j, hj, h⟩)
      · cases j with
        | zero => exact .inl h
        | succ j => exact .inr (.inr (.inl ⟨j, by simpa using hj, by rw [h, show i + (j + 1) = i + 1 + j by omega]⟩))
      · cases j with
        | zero => exact .inr (.inl (by simpa using h))
        | succ j =>
          refine .inr (.inr (.inr ⟨j, by simpa using hj, ?_⟩))
          rw [show i + 1 + j = i + (j + 1) by omega]; simpa using h
theorem mem_allS (t : Tree) : ∀ (path q : List Int), q ∈ allS path t ↔ ∃ r, q = path ++ r ∧ posIn t r = true := by
  induction t using Tree.ind' with
  | h t ih =>
  intro path q
  rw [allS_eq, mem_items]
  constructor
  · rintro (⟨j, hj, rfl⟩ | ⟨j, hj, h⟩)
    · exact ⟨_, rfl, by simp only [posIn, decide_eq_true_eq]; omega⟩
    · rw [mem_slots] at h
      obtain ⟨k, hk, h⟩ := h
      rw [ih t.kids[j] (List.getElem_mem hj) _ (List.getElem_mem hk)] at h
      obtain ⟨r, rfl, hr⟩ := h
      refine ⟨((0 + j : Nat) : Int) :: ((0 + k : Nat) : Int) :: r, by simp, ?_⟩
      simp only [Nat.zero_add, posIn, Int.natCast_nonneg, Int.toNat_natCast, true_and, hj, hk, dif_pos]
      exact hr
  · rintro ⟨r, rfl, hr⟩
    match r, hr with
    | [i], hr =>
      simp only [posIn, decide_eq_true_eq] at hr
      exact .inl ⟨i.toNat, by omega, by rw [show ((0 + i.toNat : Nat) : Int) = i by omega]⟩
    | i :: k :: r, hr =>
      simp only [posIn] at hr
      split at hr
      · rename_i hi
        split at hr
        · rename_i hk
          refine .inr ⟨i.toNat, hi.2, ?_⟩
          rw [mem_slots]
          refine ⟨k.toNat, hk.2, ?_⟩
          rw [ih _ (List.getElem_mem hi.2) _ (List.getElem_mem hk.2)]
          exact ⟨r, by rw [show ((0 + i.toNat : Nat) : Int) = i by omega, show ((0 + k.toNat : Nat) : Int) = k by omega]; simp, hr⟩
        · cases hr
      · cases hr
    | [], hr => simp [posIn] at hr
theorem mem_all {t:Tree} {q:List Int}:q ∈ allS [] t ↔ posIn t q = true:=by rw [mem_allS];simp
theorem cmpS_append:∀ (p a b:List Int),cmpS (p ++ a) (p ++ b) = cmpS a b
 | [],a,b=>rfl
 | x :: p,a,b=>by rw [List.cons_append,List.cons_append,cmpS,if_neg (by omega),if_neg (by omega)];exact cmpS_append p a b
theorem cmpS_self:∀ a,cmpS a a = 0
 | []=>rfl
 | x :: a=>by rw [cmpS,if_neg (by omega),if_neg (by omega)];exact cmpS_self a
theorem cmpS_range : ∀ a b, cmpS a b = -1 ∨ cmpS a b = 0 ∨ cmpS a b = 1
  | [], [] => by simp [cmpS]
  | [], _ :: _ => by simp [cmpS]
  | _ :: _, [] => by simp [cmpS]
  | x :: a, y :: b => by
    rw [cmpS]
    split
    · simp
    · split
      · simp
      · exact cmpS_range a b
theorem cmpS_swap : ∀ a b, cmpS b a = - cmpS a b
  | [], [] => by simp [cmpS]
  | [], _ :: _ => by simp [cmpS]
  | _ :: _, [] => by simp [cmpS]
  | x :: a, y :: b => by
    have ih := cmpS_swap a b
    rw [cmpS, cmpS]
    by_cases h1 : x < y
    · rw [if_neg (by omega), if_pos h1, if_pos h1]; rfl
    · by_cases h2 : y < x
      · rw [if_pos h2, if_neg h1, if_pos h2]
      · rw [if_neg h2, if_neg h1, if_neg h1, if_neg h2, ih]
def ltS (a b:List Int):Prop:=cmpS a b < 0
theorem items_form (path:List Int):∀ (ts:List Tree) (i:Nat) (q:List Int),q ∈ itemsS path i ts→∃ (x:Int) (r:List Int),q = path ++ x :: r∧(i:Int)≤x:=by
 intro ts i q h
 rw [mem_items] at h
 rcases h with ⟨j,_,rfl⟩ | ⟨j,hj,h⟩
 ·exact ⟨_,[],rfl,by omega⟩
 ·rw [mem_slots] at h
  obtain ⟨k,hk,h⟩:=h
  rw [mem_allS] at h
  obtain ⟨r,rfl,_⟩:=h
  exact ⟨((i + j:Nat):Int),_,by simp only [List.append_assoc,List.cons_append,List.nil_append];rfl,by omega⟩
theorem slots_form (path:List Int) (i k:Nat) (us:List Tree) (q:List Int) (h:q ∈ slotsS path i k us):∃ (y:Int) (r:List Int),q = path ++ (i:Int) :: y :: r∧(k:Int)≤y:=by
 rw [mem_slots] at h
 obtain ⟨j,hj,h⟩:=h
 rw [mem_allS] at h
 obtain ⟨r,rfl,_⟩:=h
 exact ⟨((k + j:Nat):Int),r,by simp,by omega⟩
mutual
theorem allS_sorted (path : List Int) : (t : Tree) → (allS path t).Pairwise ltS
  | .mk _ _ _ ts => by rw [allS]; exact itemsS_sorted path 0 ts
theorem itemsS_sorted (path : List Int) (i : Nat) : (ts : List Tree) → (itemsS path i ts).Pairwise ltS
  | [] => by rw [itemsS]; exact List.pairwise_singleton _ _
  | .mk _ _ _ us :: ts => by
    rw [itemsS, List.pairwise_cons]
    refine ⟨fun q hq => ?_, ?_⟩
    · rcases List.mem_append.1 hq with hq | hq
      · obtain ⟨y, r, rfl, _⟩ := slots_form path i 0 us q hq
        unfold ltS; rw [cmpS_append, cmpS, if_neg (by omega), if_neg (by omega), cmpS]; decide
      · obtain ⟨x, r, rfl, hx⟩ := items_form path ts (i + 1) q hq
        unfold ltS; rw [cmpS_append, cmpS, if_pos (by omega)]; decide
    · rw [List.pairwise_append]
      refine ⟨slotsS_sorted path i 0 us, itemsS_sorted path (i + 1) ts, fun a ha b hb => ?_⟩
      obtain ⟨y, r, rfl, _⟩ := slots_form path i 0 us a ha
      obtain ⟨x, s, rfl, hx⟩ := items_form path ts (i + 1) b hb
      unfold ltS; rw [cmpS_append, cmpS, if_pos (by omega)]; decide
theorem slotsS_sorted (path : List Int) (i k : Nat) : (us : List Tree) → (slotsS path i k us).Pairwise ltS
  | [] => by rw [slotsS]; exact List.Pairwise.nil
  | u :: us => by
    rw [slotsS, List.pairwise_append]
    refine ⟨allS_sorted _ u, slotsS_sorted path i (k + 1) us, fun a ha b hb => ?_⟩
    rw [mem_allS] at ha
    obtain ⟨r, rfl, _⟩ := ha
    obtain ⟨y, s, rfl, hy⟩ := slots_form path i (k + 1) us b hb
    unfold ltS; rw [List.append_assoc, cmpS_append]; show cmpS ((i : Int) :: (k : Int) :: r) _ < 0
    rw [cmpS, if_neg (by omega), if_neg (by omega), cmpS, if_pos (by omega)]; decide
end
mutual
def cntS:Tree→Nat
 | .mk _ _ _ ts=>itemsC ts
def itemsC:List Tree→Nat
 | []=>1
 | .mk _ _ _ us :: ts=>1 + (slotsC us + itemsC ts)
def slotsC:List Tree→Nat
 | []=>0
 | u :: us=>cntS u + slotsC us
end
mutual
theorem allS_len (path:List Int):(t:Tree)→(allS path t).length = cntS t
 | .mk _ _ _ ts=>by rw [allS,cntS];exact itemsS_len path 0 ts
theorem itemsS_len (path:List Int) (i:Nat):(ts:List Tree)→(itemsS path i ts).length = itemsC ts
 | []=>by rw [itemsS,itemsC];rfl
 | .mk _ _ _ us :: ts=>by rw [itemsS,itemsC,List.length_cons,List.length_append,slotsS_len path i 0 us,itemsS_len path (i + 1) ts];omega
theorem slotsS_len (path:List Int) (i k:Nat):(us:List Tree)→(slotsS path i k us).length = slotsC us
 | []=>by rw [slotsS,slotsC];rfl
 | u :: us=>by rw [slotsS,slotsC,List.length_append,allS_len _ u,slotsS_len path i (k + 1) us]
end
mutual
theorem cntS_le:(t:Tree)→cntS t≤2 * countS t
 | .mk _ _ _ ts=>by rw [cntS,countS];have:=itemsC_le ts;omega
theorem itemsC_le:(ts:List Tree)→itemsC ts≤1 + 2 * countsS ts
 | []=>by rw [itemsC];omega
 | .mk _ _ _ us :: ts=>by rw [itemsC,countsS,countS];have:=slotsC_le us;have:=itemsC_le ts;omega
theorem slotsC_le:(us:List Tree)→slotsC us≤2 * countsS us
 | []=>by rw [slotsC];omega
 | u :: us=>by rw [slotsC,countsS];have:=cntS_le u;have:=slotsC_le us;omega
end
theorem depthS_kid {t:Tree} {j:Nat} (h:j < t.kids.length):depthS t.kids[j] + 1≤depthS t:=by
 obtain ⟨_,_,_,ts⟩:=t
 simp only [Tree.kids] at *
 rw [depthS]
 have h1:=depthsS_append (ts.take j) (ts.drop j)
 rw [List.take_append_drop,List.drop_eq_getElem_cons (show j < ts.length from h),depthsS] at h1
 omega
theorem countS_kid {t:Tree} {j:Nat} (h:j < t.kids.length):countS t.kids[j] + 1≤countS t:=by
 obtain ⟨_,_,_,ts⟩:=t
 simp only [Tree.kids] at *
 rw [countS]
 have h1:=countsS_append (ts.take j) (ts.drop j)
 rw [List.take_append_drop,List.drop_eq_getElem_cons (show j < ts.length from h),countsS] at h1
 omega
theorem kids_le_count (t:Tree):t.kids.length + 1≤countS t:=by
 obtain ⟨_,_,_,ts⟩:=t
 simp only [Tree.kids]
 rw [countS]
 have:ts.length≤countsS ts:=by
  induction ts with
  | nil=>simp
  | cons u us ih=>obtain ⟨_,_,_,vs⟩:=u;rw [countsS,countS,List.length_cons];omega
 omega
theorem posIn_bd (t : Tree) : ∀ (q : List Int), posIn t q = true → q.length ≤ depthS t ∧ ∀ x ∈ q, 0 ≤ x ∧ x ≤ countS t := by
  induction t using Tree.ind' with
  | h t ih =>
  intro q hq
  have hkc := kids_le_count t
  match q, hq with
  | [i], hq =>
    simp only [posIn, decide_eq_true_eq] at hq
    refine ⟨?_, by simp; omega⟩
    obtain ⟨_, _, _, ts⟩ := t
    rw [depthS]; simp
  | i :: k :: r, hq =>
    simp only [posIn] at hq
    split at hq
    · rename_i hi
      split at hq
      · rename_i hk
        obtain ⟨h1, h2⟩ := ih _ (List.getElem_mem hi.2) _ (List.getElem_mem hk.2) r hq
        have d1 := depthS_kid hi.2
        have d2 := depthS_kid hk.2
        have c1 := countS_kid hi.2
        have c2 := countS_kid hk.2
        have k2 := kids_le_count (t.kids[i.toNat]'hi.2)
        refine ⟨by simp only [List.length_cons]; omega, ?_⟩
        intro x hx
        simp only [List.mem_cons] at hx
        rcases hx with rfl | rfl | hx
        · omega
        · omega
        · have := h2 x hx; omega
      · cases hq
    · cases hq
  | [], hq => simp [posIn] at hq
end Go.Proofs.YtbjcioknfjofkaaGreat
namespace Go.Proofs.YtbjcioknfjofkaaGreat
open Go.RowKit
def validS (t:Tree):Bool:=(t.kind == 1) && formS t && decide ((countS t:Int)≤1000) && decide ((depthS t:Int)≤24)
def NBox (W:World) (b:Nat) (k c:Int) (s:ByteArray) (v:Value):Prop :=
 W.cell? ⟨b,0,none⟩ = some (.int .i64 k)∧W.cell? ⟨b,1,none⟩ = some (.string s)∧W.cell? ⟨b,2,none⟩ = some (.int .i64 c)∧W.cell? ⟨b,3,none⟩ = some v
theorem NBox.new (w:World) (k c:Int) (s:ByteArray) (v:Value):NBox (w.alloc (Obj.cells #[.int .i64 k,.string s,.int .i64 c,v] 24)) w.heap.size k c s v :=
 ⟨by rw [World.cell?_alloc_new];rfl,by rw [World.cell?_alloc_new];rfl,by rw [World.cell?_alloc_new];rfl,by rw [World.cell?_alloc_new];rfl⟩
theorem NBox.below {W W':World} {B b:Nat} {k c:Int} {s:ByteArray} {v:Value} (h:NBox W b k c s v) (hb:Below B W W') (hB:b < B):NBox W' b k c s v :=
 ⟨((bcell hb).1 _ _ hB).trans h.1,((bcell hb).1 _ _ hB).trans h.2.1,((bcell hb).1 _ _ hB).trans h.2.2.1,((bcell hb).1 _ _ hB).trans h.2.2.2⟩
set_option maxHeartbeats 1000000 in
theorem valid_any (t : Tree) (A : Option Addr) (cap : Nat) (w : World) (hv : SliceR treeE w (Lt w.heap.size) t.kids (.slice A t.kids.length cap)) (htx : t.text.size ≤ maxLen) (hct : countS t ≤ 1000000000) :
    Calls Tryz.prog 35 #[.agg #[.int .i64 t.kind, .string t.text, .int .i64 t.cols, .slice A t.kids.length cap]] w fun e w' => e = .returned (.bool (validS t)) ∧ Below w.heap.size w w' := by
  have C1 : Hid (∀ W, Below w.heap.size w W → Calls Tryz.prog 65 #[.agg #[.int .i64 t.kind, .string t.text, .int .i64 t.cols, .slice A t.kids.length cap]] W fun e w' => e = .returned (.bool (formS t)) ∧ Below W.heap.size W w') := fun W hW => form_any t W _ (hv.below hW hW.size) htx
  have C2 : Hid (∀ W, Below w.heap.size w W → Calls Tryz.prog 66 #[.agg #[.int .i64 t.kind, .string t.text, .int .i64 t.cols, .slice A t.kids.length cap]] W fun e w' => e = .returned (.int .i64 (countS t)) ∧ Below W.heap.size W w') := fun W hW => count_any t W _ (hv.below hW hW.size) hct
  have C3 : Hid (∀ W, Below w.heap.size w W → Calls Tryz.prog 67 #[.agg #[.int .i64 t.kind, .string t.text, .int .i64 t.cols, .slice A t.kids.length cap]] W fun e w' => e = .returned (.int .i64 (depthS t)) ∧ Below W.heap.size W w') := fun W hW => depth_any t W _ (hv.below hW hW.size) hct
  have HF : Hid (validS t = ((t.kind == 1) && formS t && decide ((countS t : Int) ≤ 1000) && decide ((depthS t : Int) ≤ 24))) := rfl
  generalize formS t = b2 at *
  generalize countS t = n1 at *
  generalize depthS t = n2 at *
  generalize hvs : validS t = b at *
  obtain ⟨tk, tx, tc, ts⟩ := t
  simp only [Tree.kind, Tree.text, Tree.cols, Tree.kids] at *
  have HB0 : Hid (Below w.heap.size w (w.alloc (Obj.cells #[.int .i64 tk, .string tx, .int .i64 tc, .slice A ts.length cap] 24))) := (Below.refl _ _).alloc (Nat.le_refl _) _
  have KB : Hid (∀ W, Below (w.alloc (Obj.cells #[.int .i64 tk, .string tx, .int .i64 tc, .slice A ts.length cap] 24)).heap.size (w.alloc (Obj.cells #[.int .i64 tk, .string tx, .int .i64 tc, .slice A ts.length cap] 24)) W → NBox W w.heap.size tk tc tx (.slice A ts.length cap)) :=
    fun W hW => (NBox.new w tk tc tx _).below hW (by simp)
  clear hv htx hct hvs
  cases h1 : (tk == 1) with
  | false =>
    have HG : Hid (b = false) := by show _ = _; rw [HF.out, h1]; rfl
    go_enter Tryz.func35, Tryz.ntmps35
    go_wp2_with fail
    go_ret
    exact ⟨by rw [HG.out]; rfl, HB0.out⟩
  | true =>
  cases b2 with
  | false =>
    have HG : Hid (b = false) := by show _ = _; rw [HF.out]; simp
    go_enter Tryz.func35, Tryz.ntmps35
    go_wp2_with fail
    refine (C1.out _ HB0.out).mono ?_
    rintro e w1 ⟨rfl, hb1⟩
    have HB1 := hid (HB0.out.trans (hb1.mono HB0.out.size))
    clear hb1
    go_wp2_with fail
    go_ret
    exact ⟨by rw [HG.out]; rfl, HB1.out⟩
  | true =>
  by_cases h3 : (n1 : Int) ≤ 1000
  rotate_left
  · have HG : Hid (b = false) := by show _ = _; rw [HF.out, decide_eq_false h3]; simp
    have d3 : decide ((n1 : Int) ≤ 1000) = false := decide_eq_false h3
    clear h3
    go_enter Tryz.func35, Tryz.ntmps35
    go_wp2_with fail
    refine (C1.out _ HB0.out).mono ?_
    rintro e w1 ⟨rfl, hb1⟩
    have HB1 := hid (HB0.out.trans (hb1.mono HB0.out.size))
    obtain ⟨m0, m1, m2, m3⟩ := KB.out w1 hb1
    clear hb1
    go_wp2_with fail
    refine (C2.out _ HB1.out).mono ?_
    rintro e w2 ⟨rfl, hb2⟩
    have HB2 := hid (HB1.out.trans (hb2.mono HB1.out.size))
    clear hb2
    go_wp2_with fail
    go_ret
    exact ⟨by rw [HG.out]; rfl, HB2.out⟩
  · have HG : Hid (b = decide ((n2 : Int) ≤ 24)) := by show _ = _; rw [HF.out, h1, decide_eq_true h3]; rfl
    go_enter Tryz.func35, Tryz.ntmps35
    go_wp2_with fail
    refine (C1.out _ HB0.out).mono ?_
    rintro e w1 ⟨rfl, hb1⟩
    have HB1 := hid (HB0.out.trans (hb1.mono HB0.out.size))
    have HV1 := hid hb1
    obtain ⟨m0, m1, m2, m3⟩ := KB.out w1 hb1
    clear hb1
    go_wp2_with fail
    refine (C2.out _ HB1.out).mono ?_
    rintro e w2 ⟨rfl, hb2⟩
    have HB2 := hid (HB1.out.trans (hb2.mono HB1.out.size))
    obtain ⟨p0, p1, p2, p3⟩ := KB.out w2 (HV1.out.trans (hb2.mono HV1.out.size))
    clear hb2
    go_wp2_with fail
    refine (C3.out _ HB2.out).mono ?_
    rintro e w3 ⟨rfl, hb3⟩
    have HB3 := hid (HB2.out.trans (hb3.mono HB2.out.size))
    clear hb3
    go_wp2_with fail
    go_ret
    exact ⟨by rw [HG.out]; rfl, HB3.out⟩
def rowT (ts:List Tree):Tree:=.mk 1 ⟨#[]⟩ 0 ts
structure PlaceD where
 op:OpD
 k:Nat
 index:Int
 inside:Bool
 slot:Int
 rest:List Int
def Bd (M x:Int):Prop:=-M≤x∧x≤M
structure PlaceD.Ok (p:PlaceD):Prop where
 at_:Bd 1099511627776 p.op.at_
 n:Bd 1099511627776 p.op.n
 slot_:Bd 1099511627776 p.op.slot
 k:p.k≤1000000
 index:Bd 1152921504606846976 p.index
 slot:Bd 1152921504606846976 p.slot
 rest:∀ x ∈ p.rest,Bd 1152921504606846976 x
 len:p.rest.length≤100000
 ne:p.inside = true→0 < p.rest.length
def behindS (p:PlaceD) (l:List Int):List Int:=if p.inside then l ++ [p.slot] ++ p.rest else l
theorem bd_in64 {x:Int} (h:Bd 1152921504606846976 x):In64 x:=by unfold Bd at h;unfold In64;omega
theorem rows3 {w w':World} {S:Nat→Prop} {a b c:List Int} {va vb vc:Value} (ha:IntsR w S a va) (hb:IntsR w S b vb) (hc:IntsR w S c vc) (e:TypeId) (he:w' = w.alloc (.cells #[va,vb,vc] e)) (hS:∀ k,S k→k < w.heap.size) (g:Nat) (hg:g = w.heap.size) :
  SliceR (sliceE intE) w' (Lt w'.heap.size) [a,b,c] (.slice (some ⟨g,0,none⟩) 3 3):=by
 subst he hg
 have hk:Same S w (w.alloc (.cells #[va,vb,vc] e)):=fun p hp=>World.cell?_alloc_lt w _ p (hS _ hp)
 have hm:∀ k,S k→Lt (w.alloc (.cells #[va,vb,vc] e)).heap.size k:=fun k h=>by have:=hS k h;unfold Lt;simp;omega
 refine ⟨_,_,[va,vb,vc],rfl,Nat.le_refl _,by simp [maxLen],fun _=>⟨w.heap.size,0,rfl,by unfold Lt;simp,fun j u hu=>?_⟩,?_⟩
 ·rw [Nat.zero_add,World.cell?_alloc_new];simpa using hu
 ·exact ⟨[va],_,rfl,⟨va,rfl,ha.keep hk hm⟩,[vb],_,rfl,⟨vb,rfl,hb.keep hk hm⟩,[vc],_,rfl,⟨vc,rfl,hc.keep hk hm⟩,rfl⟩
theorem rows2 {w w':World} {S:Nat→Prop} {a b:List Int} {va vb:Value} (ha:IntsR w S a va) (hb:IntsR w S b vb) (e:TypeId) (he:w' = w.alloc (.cells #[va,vb] e)) (hS:∀ k,S k→k < w.heap.size) (g:Nat) (hg:g = w.heap.size) :
  SliceR (sliceE intE) w' (Lt w'.heap.size) [a,b] (.slice (some ⟨g,0,none⟩) 2 2):=by
 subst he hg
 have hk:Same S w (w.alloc (.cells #[va,vb] e)):=fun p hp=>World.cell?_alloc_lt w _ p (hS _ hp)
 have hm:∀ k,S k→Lt (w.alloc (.cells #[va,vb] e)).heap.size k:=fun k h=>by have:=hS k h;unfold Lt;simp;omega
 refine ⟨_,_,[va,vb],rfl,Nat.le_refl _,by simp [maxLen],fun _=>⟨w.heap.size,0,rfl,by unfold Lt;simp,fun j u hu=>?_⟩,?_⟩
 ·rw [Nat.zero_add,World.cell?_alloc_new];simpa using hu
 ·exact ⟨[va],_,rfl,⟨va,rfl,ha.keep hk hm⟩,[vb],_,rfl,⟨vb,rfl,hb.keep hk hm⟩,rfl⟩
theorem lt_alloc (w:World) (o:Obj):∀ k,Lt w.heap.size k→Lt (w.alloc o).heap.size k:=fun k h=>by unfold Lt at *;simp;omega
theorem SliceR.alloc {α:Type} {E:Enc α} {w:World} {xs:List α} {v:Value} (h:SliceR E w (Lt w.heap.size) xs v) (o:Obj):SliceR E (w.alloc o) (Lt (w.alloc o).heap.size) xs v :=
 h.keep (fun p hp=>World.cell?_alloc_lt w o p hp) (lt_alloc w o)
theorem below_alloc (w:World) (o:Obj):Below w.heap.size w (w.alloc o):=(Below.refl _ _).alloc (Nat.le_refl _) _
abbrev placeC (p:PlaceD) (vr vn vs:Value):Array Value :=
 #[.int .i64 p.op.kind,vr,.int .i64 p.op.at_,.int .i64 p.op.n,vn,.int .i64 p.op.slot,.string p.op.old,.string p.op.text,.int .i64 p.k,.int .i64 p.index,.bool p.inside,.int .i64 p.slot,vs]
set_option maxHeartbeats 1000000 in
theorem behind_any (p : PlaceD) (l : List Int) (Ar An As Al : Option Addr) (lr cr ln cn cs cl : Nat) (w : World) (hp : p.Ok) (hs : IntsR w (Lt w.heap.size) p.rest (.slice As p.rest.length cs))
    (hl : IntsR w (Lt w.heap.size) l (.slice Al l.length cl)) (hll : l.length ≤ 1000) :
    Calls Tryz.prog 135 #[.agg (placeC p (.slice Ar lr cr) (.slice An ln cn) (.slice As p.rest.length cs)), .slice Al l.length cl] w (IntsPost w (behindS p l)) := by
  obtain ⟨hat, hn, hslot, hk, hidx, hsl, hrest, hrlen, hne⟩ := hp
  obtain ⟨⟨kind, row, at_, n, nodes, oslot, old, text⟩, k, index, inside, slot, rest⟩ := p
  simp only [placeC] at *
  obtain ⟨o1, ho1⟩ : ∃ o, o = Obj.cells #[.int .i64 kind, .slice Ar lr cr, .int .i64 at_, .int .i64 n, .slice An ln cn, .int .i64 oslot, .string old, .string text, .int .i64 k, .int .i64 index, .bool inside, .int .i64 slot, .slice As rest.length cs] 130 := ⟨_, rfl⟩
  cases inside with
  | false =>
    have HL := hid (hl.alloc o1)
    subst ho1
    clear hl
    go_enter Tryz.func135, Tryz.ntmps135
    go_wp2
    go_ret
    exact ⟨_, rfl, HL.out, below_alloc _ _⟩
  | true =>
    have HL := hid ((hl.alloc o1).alloc (.cells #[.int .i64 slot] 3))
    have HS := hid ((hs.alloc o1).alloc (.cells #[.int .i64 slot] 3))
    have HM := hid (ints_lit (w.alloc o1) [slot] (by simpa using bd_in64 hsl) (S := Lt ((w.alloc o1).alloc (.cells #[.int .i64 slot] 3)).heap.size) (by unfold Lt; simp) #[.int .i64 slot] 1 rfl rfl (by simp [maxLen]) 3 (w.heap.size + 1) (by simp))
    have HC := hid (rows3 HL.out HM.out HS.out 31 rfl (fun _ h => h) (w.heap.size + 1 + 1) (by simp))
    have HF : Hid ([l, [slot], rest].flatten.length ≤ 1000000) := by show _ ≤ _; simp; omega
    have HB : Hid (Below w.heap.size w (((w.alloc o1).alloc (.cells #[.int .i64 slot] 3)).alloc (.cells #[.slice Al l.length cl, .slice (some ⟨w.heap.size + 1, 0, none⟩) 1 1, .slice As rest.length cs] 31))) :=
      (((below_alloc _ _).trans ((below_alloc _ _).mono (by simp))).trans ((below_alloc _ _).mono (by simp; omega)))
    subst ho1
    clear hl hs
    go_enter Tryz.func135, Tryz.ntmps135
    go_wp2_with fail
    with_reducible refine (concat_any _ _ _ HC.out HF.out).mono ?_
    rintro e w1 ⟨v1, rfl, hown1, hb1⟩
    have HO := hid hown1
    have HB1 := hid hb1
    clear hown1 hb1
    go_wp2_with fail
    go_ret
    exact ⟨_, rfl, by have h := HO.out.ints (S := Lt w1.heap.size) (fun _ _ h => h); simpa [behindS] using h, HB.out.trans (HB1.out.mono HB.out.size)⟩
theorem behind_lit (p:PlaceD) (Ar An As:Option Addr) (lr cr ln cn cs:Nat) (w W0:World) (hp:p.Ok) (hs:IntsR w (Lt w.heap.size) p.rest (.slice As p.rest.length cs)) (hb0:Below w.heap.size w W0)
  (xs:List Int) (hxs:∀ x ∈ xs,In64 x) (hl:xs.length≤1000) (n g:Nat) (hn:n = xs.length) (hg:g = W0.heap.size) (arr:Array Value) (harr:arr = (xs.map (Value.int .i64 ·)).toArray) :
  Calls Tryz.prog 135 #[.agg (placeC p (.slice Ar lr cr) (.slice An ln cn) (.slice As p.rest.length cs)),.slice (some ⟨g,0,none⟩) n n] (W0.alloc (.cells arr 3)) (IntsPost w (behindS p xs)):=by
 subst hn
 have h1:Below w.heap.size w (W0.alloc (.cells arr 3)):=hb0.trans ((below_alloc _ _).mono hb0.size)
 refine (behind_any p xs Ar An As (some ⟨g,0,none⟩) lr cr ln cn cs xs.length _ hp (hs.below h1 h1.size) (ints_lit W0 xs hxs (by unfold Lt;simp) arr _ harr rfl (by unfold maxLen;omega) _ g hg) hl).mono ?_
 rintro e w' ⟨v,he,hv,hb⟩
 exact ⟨v,he,hv,h1.trans (hb.mono h1.size)⟩
theorem below_draw {B:Nat} {w w':World} (h:Below B w w') (n:Nat):Below B w (w'.drewN n):=h.trans (Below.mono ⟨rfl,rfl,rfl,Nat.le_refl _,fun _ _=>rfl⟩ (Nat.le_refl _))
def insertS (p:PlaceD) (after:Bool):List Int :=
 if p.index < p.op.at_∨p.index = p.op.at_∧p.inside = false∧after = false then behindS p [p.index] else behindS p [p.index + p.k]
def removeS (p:PlaceD):List Int × Bool :=
 if p.index < p.op.at_∨p.index = p.op.at_∧p.inside = false then (behindS p [p.index],false)
 else if p.index < p.op.at_ + p.k then ([p.op.at_],true) else (behindS p [p.index - p.k],false)
def wrapS (p:PlaceD) (after:Bool):List Int :=
 if p.inside = false∧p.index = p.op.at_∧p.op.n = 0∧after = true then [p.op.at_ + 1]
 else if p.index < p.op.at_∨p.index = p.op.at_∧p.inside = false then behindS p [p.index]
 else if p.index < p.op.at_ + p.op.n then behindS p [p.op.at_,p.op.slot,p.index - p.op.at_] else behindS p [p.index - p.op.n + 1]
def unwrapS (p:PlaceD):List Int × Bool :=
 if p.index < p.op.at_∨p.index = p.op.at_∧p.inside = false then (behindS p [p.index],false)
 else if p.op.at_ < p.index then (behindS p [p.index - 1 + p.op.n],false)
 else if p.slot < p.op.slot then ([p.op.at_],true)
 else if p.op.slot < p.slot then ([p.op.at_ + p.op.n],true)
 else ((p.op.at_ + p.rest.headD 0) :: p.rest.tail,false)
def PairPost (w:World) (r:List Int × Bool) (e:Ending) (w':World):Prop:=∃ v,e = .returned (.tuple #[v,.bool r.2])∧IntsR w' (Lt w'.heap.size) r.1 v∧Below w.heap.size w w'
theorem in64_of {x:Int} (h1:-2305843009213693952≤x) (h2:x≤2305843009213693952):In64 x:=by unfold In64;omega
theorem lit_post {w W0:World} (hb0:Below w.heap.size w W0) (xs:List Int) (hxs:∀ x ∈ xs,In64 x) (hl:xs.length≤1000) (n g:Nat) (hn:n = xs.length) (hg:g = W0.heap.size) (arr:Array Value) (harr:arr = (xs.map (Value.int .i64 ·)).toArray) :
  IntsR (W0.alloc (.cells arr 3)) (Lt (W0.alloc (.cells arr 3)).heap.size) xs (.slice (some ⟨g,0,none⟩) n n)∧Below w.heap.size w (W0.alloc (.cells arr 3)) :=
 ⟨ints_lit W0 xs hxs (by unfold Lt;simp) arr n harr hn (by unfold maxLen;omega) _ g hg,hb0.trans ((below_alloc _ _).mono hb0.size)⟩
theorem nodeInfo:(Tryz.prog.info? 24).map (fun i=>(i.zero,i.size,i.bytes)) = some (some (.agg #[.int .i64 0,.string ⟨#[]⟩,.int .i64 0,.slice none 0 0]),4,56):=by kernel_rfl
def OwnT (w:World) (b:Nat) (S:Nat→Prop) (ts:List Tree) (v:Value):Prop:=∃ cs,w.ownsRow b 24 4 v ts.length cs∧ListR treeE w S ts cs
theorem OwnT.empty (w:World) (S:Nat→Prop):OwnT (w.alloc (.cells #[] 24)) w.heap.size S [] (.slice (some ⟨w.heap.size,0,none⟩) 0 0) :=
 ⟨[],World.ownsRow_made (base:=w.heap.size) (e:=24) (size:=4) w #[] 0 (Nat.le_refl _) (Nat.zero_le _) rfl,rfl⟩
section
variable {w:World} {b:Nat} {S:Nat→Prop} {xss yss:List Tree} {v:Value}
theorem ownT_grown {w':World} {v':Value} {cs rs:List Value} (hBb:∀ k,S k→k < b) (h2:ListR treeE w S xss cs) (hls:ListR treeE w S yss rs)
  (h3:w'.ownsRow b 24 4 v' (xss.length + yss.length) (cs ++ rs)) (hb:Below b w w'):OwnT w' b S (xss ++ yss) v' :=
 ⟨cs ++ rs,by rw [List.length_append];exact h3,(h2.append hls).keep (fun p hp=>hb.cell (hBb _ hp)) (fun _ h=>h)⟩
theorem appT {ops:Array Oper} {rest:List Oper} {o:Oper} {a:Act} {Q:Exit→Act→World→Prop} (hgd:o.guard = none) (s x:Operand)
  (ho:o.op = .call { callee:=.builtin .append,args:=#[s,x],argTypes:=#[22,22] })
  (b:Nat) (S:Nat→Prop) (hBb:∀ k,S k→k < b) (v:Value) (xss yss:List Tree) (hs:a.eval s = v) (hown:OwnT w b S xss v) (A:Option Addr) (m c:Nat) (hx:a.eval x = .slice A m c) (hr:SliceR treeE w S yss (.slice A m c))
  (hbound:xss.length + yss.length≤1000000000) (hb:b≤w.heap.size)
  (h:∀ v' w',OwnT w' b S (xss ++ yss) v'→Below b w w'→wpList Tryz.prog ops Q rest (a.put o.dst v') w'):wpList Tryz.prog ops Q (o :: rest) a w:=by
 obtain ⟨i0,hi0,hz0,hz1,hz2⟩:=info_parts nodeInfo
 obtain ⟨A',cap',rs,e,h1,h2,hrd,hls⟩:=hr
 injection e with e1 e2 e3
 subst e1 e2 e3
 obtain ⟨cs,ho1,ho2⟩:=hown
 have hl:=hls.len
 refine wpList_append_any w hgd s x 22 ho b 24 i0 _ 4 56 Tryz.underlying22 hi0 hz0 hz1 hz2 rfl (by omega) v _ _ hs ho1 _ A _ c rs hx hl hrd hls.one (by simp only [maxLen];omega) (by omega) hb ?_
 intro v' w' h3 h4 h5
 have hbb:=below_of_grown _ ho1 h4 hb
 exact h v' w' (ownT_grown hBb ho2 hls h3 hbb) hbb
end
theorem fourAt {w:World} {b o:Nat} {x0 x1 x2 x3:Value} (d0:w.cell? ⟨b,o,none⟩ = some x0) (d1:w.cell? ⟨b,o + 1,none⟩ = some x1) (d2:w.cell? ⟨b,o + 2,none⟩ = some x2) (d3:w.cell? ⟨b,o + 3,none⟩ = some x3) (y0 y1 y2 y3:Value) {W:World}
  (hW:W = (((w.setCell ⟨b,o,none⟩ y0).setCell ⟨b,o + 1,none⟩ y1).setCell ⟨b,o + 2,none⟩ y2).setCell ⟨b,o + 3,none⟩ y3) :
  (W.cell? ⟨b,o,none⟩ = some y0∧W.cell? ⟨b,o + 1,none⟩ = some y1∧W.cell? ⟨b,o + 2,none⟩ = some y2∧W.cell? ⟨b,o + 3,none⟩ = some y3)∧W.heap.size = w.heap.size∧(∀ B a,B≤b→Below B a w→Below B a W) ∧
  (∀ p:Addr,p.block≠b→W.cell? p = w.cell? p)∧(∀ j,j < o∨o + 4≤j→W.cell? ⟨b,j,none⟩ = w.cell? ⟨b,j,none⟩)∧(∀ p:Addr,W.frozen? p = w.frozen? p):=by
 have ne:∀ (i j:Nat),i≠j→(⟨b,i,none⟩:Addr)≠⟨b,j,none⟩:=fun i j h e=>h (by injection e)
 have f:∀ (p:Addr) (j:Nat),p.block≠b→(⟨b,j,none⟩:Addr)≠p:=fun p j h e=>h (by rw [← e])
 subst hW
 refine ⟨⟨?_,?_,?_,?_⟩,by simp [World.setCell],fun B a hB h=>(((h.setCell hB _).setCell hB _).setCell hB _).setCell hB _,fun p hp=>?_,fun j hj=>?_,fun p=>?_⟩
 ·rw [World.cell?_setCell_other (h:=ne _ _ (by omega)),World.cell?_setCell_other (h:=ne _ _ (by omega)),World.cell?_setCell_other (h:=ne _ _ (by omega)),World.cell?_setCell_same (h:=d0)]
 ·rw [World.cell?_setCell_other (h:=ne _ _ (by omega)),World.cell?_setCell_other (h:=ne _ _ (by omega))]
  exact World.cell?_setCell_same _ _ _ (by rw [World.cell?_setCell_other (h:=ne _ _ (by omega))];exact d1)
 ·rw [World.cell?_setCell_other (h:=ne _ _ (by omega))]
  exact World.cell?_setCell_same _ _ _ (by rw [World.cell?_setCell_other (h:=ne _ _ (by omega)),World.cell?_setCell_other (h:=ne _ _ (by omega))];exact d2)
 ·exact World.cell?_setCell_same _ _ _ (by rw [World.cell?_setCell_other (h:=ne _ _ (by omega)),World.cell?_setCell_other (h:=ne _ _ (by omega)),World.cell?_setCell_other (h:=ne _ _ (by omega))];exact d3)
 ·rw [World.cell?_setCell_other (h:=f p _ hp),World.cell?_setCell_other (h:=f p _ hp),World.cell?_setCell_other (h:=f p _ hp),World.cell?_setCell_other (h:=f p _ hp)]
 ·rw [World.cell?_setCell_other (h:=ne _ _ (by omega)),World.cell?_setCell_other (h:=ne _ _ (by omega)),World.cell?_setCell_other (h:=ne _ _ (by omega)),World.cell?_setCell_other (h:=ne _ _ (by omega))]
 ·rw [World.frozen?_setCell,World.frozen?_setCell,World.frozen?_setCell,World.frozen?_setCell]
theorem blA (w:World) (o:Obj):Below w.heap.size w (w.alloc o):=(Below.refl _ _).alloc (Nat.le_refl _) _
theorem blAlloc {W X:World} (h:Below W.heap.size W X) (o:Obj):Below W.heap.size W (X.alloc o):=h.alloc h.size o
theorem blCall {W X Y:World} (h:Below W.heap.size W X) (hb:Below X.heap.size X Y):Below W.heap.size W Y:=h.trans (hb.mono h.size)
theorem newC (W:World) (arr:Array Value) (T:TypeId) (b o:Nat) (hb:b = W.heap.size):(W.alloc (.cells arr T)).cell? ⟨b,o,none⟩ = arr[o]?:=by subst hb;exact World.cell?_alloc_new _ _ _ _
theorem newF (W:World) (arr:Array Value) (T:TypeId) (b o:Nat) (hb:b = W.heap.size):(W.alloc (.cells arr T)).frozen? ⟨b,o,none⟩ = false:=by subst hb;exact World.frozen?_alloc_new _ _ _ _
theorem oldC (W:World) (B:Obj) (b o:Nat) (x:Option Value) (hb:b < W.heap.size) (h:W.cell? ⟨b,o,none⟩ = x):(W.alloc B).cell? ⟨b,o,none⟩ = x:=((blA W B).cell (p:=⟨b,o,none⟩) hb).trans h
theorem cellLt {w:World} {a:Addr} {v:Value} (h:w.cell? a = some v):a.block < w.heap.size:=by
 rcases Nat.lt_or_ge a.block w.heap.size with h1 | h1
 ·exact h1
 ·simp [World.cell?,Array.getElem?_eq_none h1] at h
def replS (t:Tree) (i:Nat) (k:Tree):Tree:=.mk t.kind t.text t.cols (t.kids.set i k)
theorem OwnT.rowsN {w:World} {b:Nat} {S:Nat→Prop} {ts:List Tree} {v:Value} (h:OwnT w b S ts v):SliceR treeE w (fun q=>S q∨b≤q∧q < w.heap.size) ts v:=by
 obtain ⟨cs,h1,h2⟩:=h
 exact SliceR.of_own (E:=treeE) h1 (fun k hk=>.inr (h1.lt k hk)) (h2.keep (sameRefl _ _) (fun _ h=>.inl h))
def filledS (t:Tree) (i:Nat) (l:List Tree):Tree:=replS t i (rowT l)
theorem blDrew {W X:World} (h:Below W.heap.size W X):Below W.heap.size W X.drew:=⟨h.os,h.tape,h.output,h.size,h.block⟩
theorem ofDrew {w w':World} {B:Nat} (h:Below B w.drew w'):Below B w w':=⟨h.os,h.tape,h.output,h.size,h.block⟩
def spliceS (l:List Tree) (a b:Nat) (by_:List Tree):List Tree:=l.take a ++ by_ ++ l.drop b
def ListP (S:Nat→Prop) (w:World) (L:List Tree) (e:Ending) (w':World):Prop :=
 ∃ v,e = .returned v∧SliceR treeE w' (fun q=>S q∨w.heap.size≤q∧q < w'.heap.size) L v∧Below w.heap.size w w'
set_option maxHeartbeats 2000000 in
theorem wrap_any (p : PlaceD) (after : Bool) (Ar An As : Option Addr) (lr cr ln cn cs : Nat) (w : World) (hp : p.Ok) (hs : IntsR w (Lt w.heap.size) p.rest (.slice As p.rest.length cs)) :
    Calls Tryz.prog 133 #[.agg (placeC p (.slice Ar lr cr) (.slice An ln cn) (.slice As p.rest.length cs)), .bool after] w (IntsPost w (wrapS p after)) := by
  have H := hid (And.intro hp hs)
  obtain ⟨hat, hn, hslot, hk, hidx, hsl, hrest, hrlen, hne⟩ := hp
  unfold Bd at hat hn hslot hidx hsl
  obtain ⟨hat1, hat2⟩ := hat
  obtain ⟨hidx1, hidx2⟩ := hidx
  obtain ⟨hn1, hn2⟩ := hn
  obtain ⟨hos1, hos2⟩ := hslot
  obtain ⟨hs1, hs2⟩ := hsl
  have hne' := hid hne
  clear hrest hrlen hne hs
  obtain ⟨⟨kind, row, at_, n, nodes, oslot, old, text⟩, k, index, inside, slot, rest⟩ := p
  simp only [placeC] at *
  rcases Int.lt_trichotomy index at_ with hlt | heq | hgt
  · have heq : (index == at_) = false := by simp; omega
    have hfin : wrapS ⟨⟨kind, row, at_, n, nodes, oslot, old, text⟩, k, index, inside, slot, rest⟩ after = behindS ⟨⟨kind, row, at_, n, nodes, oslot, old, text⟩, k, index, inside, slot, rest⟩ [index] := by unfold wrapS; rw [if_neg (by simp; omega), if_pos (Or.inl hlt)]
    cases inside
    · skip
      have HF := hid hfin
      clear hfin
      go_enter Tryz.func133, Tryz.ntmps133
      go_wp2_with fail
      go_quiet (fail)
      go_wp2_with fail
      refine (behind_lit _ Ar An As lr cr ln cn cs w _ H.out.1 H.out.2 (by first | exact below_alloc _ _ | exact below_draw (below_alloc _ _) _) [index] (by intro x hx; simp only [List.mem_cons, List.not_mem_nil, or_false] at hx; rcases hx with rfl <;> (apply in64_of <;> omega)) (by simp) _ _ rfl (by simp) _ rfl).mono ?_
      rintro e w1 ⟨v1, rfl, hv1, hb1⟩
      have HV := hid hv1
      have HB := hid hb1
      clear hv1 hb1
      go_wp2_with fail
      go_ret
      rw [HF.out]
      exact ⟨_, rfl, HV.out, HB.out⟩
    · skip
      have HF := hid hfin
      clear hfin
      go_enter Tryz.func133, Tryz.ntmps133
      go_wp2_with fail
      go_quiet (fail)
      go_wp2_with fail
      refine (behind_lit _ Ar An As lr cr ln cn cs w _ H.out.1 H.out.2 (by first | exact below_alloc _ _ | exact below_draw (below_alloc _ _) _) [index] (by intro x hx; simp only [List.mem_cons, List.not_mem_nil, or_false] at hx; rcases hx with rfl <;> (apply in64_of <;> omega)) (by simp) _ _ rfl (by simp) _ rfl).mono ?_
      rintro e w1 ⟨v1, rfl, hv1, hb1⟩
      have HV := hid hv1
      have HB := hid hb1
      clear hv1 hb1
      go_wp2_with fail
      go_ret
      rw [HF.out]
      exact ⟨_, rfl, HV.out, HB.out⟩
  · subst heq
    cases inside with
    | false =>
      by_cases hn0 : n = 0
      · subst hn0
        cases after with
        | true =>
          have hfin : wrapS ⟨⟨kind, row, index, 0, nodes, oslot, old, text⟩, k, index, false, slot, rest⟩ true = [index + 1] := by unfold wrapS; rw [if_pos ⟨rfl, rfl, rfl, rfl⟩]
          have HF := hid hfin
          clear hfin
          go_enter Tryz.func133, Tryz.ntmps133
          go_wp2_with fail
          go_quiet (fail)
          go_wp2_with fail
          go_ret
          rw [HF.out]
          exact ⟨_, rfl, lit_post (by first | exact below_alloc _ _ | exact below_draw (below_alloc _ _) _) [index + 1] (by intro x hx; simp only [List.mem_cons, List.not_mem_nil, or_false] at hx; rcases hx with rfl <;> (apply in64_of <;> omega)) (by simp) _ _ rfl (by simp) _ rfl⟩
        | false =>
          have hfin : wrapS ⟨⟨kind, row, index, 0, nodes, oslot, old, text⟩, k, index, false, slot, rest⟩ false = behindS ⟨⟨kind, row, index, 0, nodes, oslot, old, text⟩, k, index, false, slot, rest⟩ [index] := by unfold wrapS; rw [if_neg (by simp), if_pos (Or.inr ⟨rfl, rfl⟩)]
          have HF := hid hfin
          clear hfin
          go_enter Tryz.func133, Tryz.ntmps133
          go_wp2_with fail
          go_quiet (fail)
          go_wp2_with fail
          refine (behind_lit _ Ar An As lr cr ln cn cs w _ H.out.1 H.out.2 (by first | exact below_alloc _ _ | exact below_draw (below_alloc _ _) _) [index] (by intro x hx; simp only [List.mem_cons, List.not_mem_nil, or_false] at hx; rcases hx with rfl <;> (apply in64_of <;> omega)) (by simp) _ _ rfl (by simp) _ rfl).mono ?_
          rintro e w1 ⟨v1, rfl, hv1, hb1⟩
          have HV := hid hv1
          have HB := hid hb1
          clear hv1 hb1
          go_wp2_with fail
          go_ret
          rw [HF.out]
          exact ⟨_, rfl, HV.out, HB.out⟩
      · have hn1 : (n == 0) = false := by simpa using hn0
        have hfin : wrapS ⟨⟨kind, row, index, n, nodes, oslot, old, text⟩, k, index, false, slot, rest⟩ after = behindS ⟨⟨kind, row, index, n, nodes, oslot, old, text⟩, k, index, false, slot, rest⟩ [index] := by unfold wrapS; rw [if_neg (by simp [hn0]), if_pos (Or.inr ⟨rfl, rfl⟩)]
        clear hn0
        have HF := hid hfin
        clear hfin
        go_enter Tryz.func133, Tryz.ntmps133
        go_wp2_with fail
        go_quiet (fail)
        go_wp2_with fail
        refine (behind_lit _ Ar An As lr cr ln cn cs w _ H.out.1 H.out.2 (by first | exact below_alloc _ _ | exact below_draw (below_alloc _ _) _) [index] (by intro x hx; simp only [List.mem_cons, List.not_mem_nil, or_false] at hx; rcases hx with rfl <;> (apply in64_of <;> omega)) (by simp) _ _ rfl (by simp) _ rfl).mono ?_
        rintro e w1 ⟨v1, rfl, hv1, hb1⟩
        have HV := hid hv1
        have HB := hid hb1
        clear hv1 hb1
        go_wp2_with fail
        go_ret
        rw [HF.out]
        exact ⟨_, rfl, HV.out, HB.out⟩
    | true =>
      by_cases hk0 : index < index + n
      · have hfin : wrapS ⟨⟨kind, row, index, n, nodes, oslot, old, text⟩, k, index, true, slot, rest⟩ after = behindS ⟨⟨kind, row, index, n, nodes, oslot, old, text⟩, k, index, true, slot, rest⟩ [index, oslot, 0] := by unfold wrapS; rw [if_neg (by simp), if_neg (by simp), if_pos hk0]; simp
        have hd : decide (index < index + n) = true := by simpa using hk0
        have HF := hid hfin
        clear hfin
        go_enter Tryz.func133, Tryz.ntmps133
        go_wp2_with fail
        go_quiet (fail)
        go_wp2_with fail
        refine (behind_lit _ Ar An As lr cr ln cn cs w _ H.out.1 H.out.2 (by first | exact below_alloc _ _ | exact below_draw (below_alloc _ _) _) [index, oslot, 0] (by intro x hx; simp only [List.mem_cons, List.not_mem_nil, or_false] at hx; rcases hx with rfl | rfl | rfl <;> (apply in64_of <;> omega)) (by simp) _ _ rfl (by simp) _ rfl).mono ?_
        rintro e w1 ⟨v1, rfl, hv1, hb1⟩
        have HV := hid hv1
        have HB := hid hb1
        clear hv1 hb1
        go_wp2_with fail
        go_ret
        rw [HF.out]
        exact ⟨_, rfl, HV.out, HB.out⟩
      · have hfin : wrapS ⟨⟨kind, row, index, n, nodes, oslot, old, text⟩, k, index, true, slot, rest⟩ after = behindS ⟨⟨kind, row, index, n, nodes, oslot, old, text⟩, k, index, true, slot, rest⟩ [index - n + 1] := by unfold wrapS; rw [if_neg (by simp), if_neg (by simp), if_neg hk0]
        have hd : decide (index < index + n) = false := by simpa using hk0
        have HF := hid hfin
        clear hfin
        go_enter Tryz.func133, Tryz.ntmps133
        go_wp2_with fail
        go_quiet (fail)
        go_wp2_with fail
        refine (behind_lit _ Ar An As lr cr ln cn cs w _ H.out.1 H.out.2 (by first | exact below_alloc _ _ | exact below_draw (below_alloc _ _) _) [index - n + 1] (by intro x hx; simp only [List.mem_cons, List.not_mem_nil, or_false] at hx; rcases hx with rfl <;> (apply in64_of <;> omega)) (by simp) _ _ rfl (by simp) _ rfl).mono ?_
        rintro e w1 ⟨v1, rfl, hv1, hb1⟩
        have HV := hid hv1
        have HB := hid hb1
        clear hv1 hb1
        go_wp2_with fail
        go_ret
        rw [HF.out]
        exact ⟨_, rfl, HV.out, HB.out⟩
  · have heq : (index == at_) = false := by simp; omega
    have hnlt : decide (index < at_) = false := by simp; omega
    by_cases hk0 : index < at_ + n
    · have hfin : wrapS ⟨⟨kind, row, at_, n, nodes, oslot, old, text⟩, k, index, inside, slot, rest⟩ after = behindS ⟨⟨kind, row, at_, n, nodes, oslot, old, text⟩, k, index, inside, slot, rest⟩ [at_, oslot, index - at_] := by unfold wrapS; rw [if_neg (by simp; omega), if_neg (by simp; omega), if_pos hk0]
      cases inside
      · skip
        have HF := hid hfin
        clear hfin
        go_enter Tryz.func133, Tryz.ntmps133
        go_wp2_with fail
        go_quiet (fail)
        go_wp2_with fail
        refine (behind_lit _ Ar An As lr cr ln cn cs w _ H.out.1 H.out.2 (by first | exact below_alloc _ _ | exact below_draw (below_alloc _ _) _) [at_, oslot, index - at_] (by intro x hx; simp only [List.mem_cons, List.not_mem_nil, or_false] at hx; rcases hx with rfl | rfl | rfl <;> (apply in64_of <;> omega)) (by simp) _ _ rfl (by simp) _ rfl).mono ?_
        rintro e w1 ⟨v1, rfl, hv1, hb1⟩
        have HV := hid hv1
        have HB := hid hb1
        clear hv1 hb1
        go_wp2_with fail
        go_ret
        rw [HF.out]
        exact ⟨_, rfl, HV.out, HB.out⟩
      · skip
        have HF := hid hfin
        clear hfin
        go_enter Tryz.func133, Tryz.ntmps133
        go_wp2_with fail
        go_quiet (fail)
        go_wp2_with fail
        refine (behind_lit _ Ar An As lr cr ln cn cs w _ H.out.1 H.out.2 (by first | exact below_alloc _ _ | exact below_draw (below_alloc _ _) _) [at_, oslot, index - at_] (by intro x hx; simp only [List.mem_cons, List.not_mem_nil, or_false] at hx; rcases hx with rfl | rfl | rfl <;> (apply in64_of <;> omega)) (by simp) _ _ rfl (by simp) _ rfl).mono ?_
        rintro e w1 ⟨v1, rfl, hv1, hb1⟩
        have HV := hid hv1
        have HB := hid hb1
        clear hv1 hb1
        go_wp2_with fail
        go_ret
        rw [HF.out]
        exact ⟨_, rfl, HV.out, HB.out⟩
    · have hfin : wrapS ⟨⟨kind, row, at_, n, nodes, oslot, old, text⟩, k, index, inside, slot, rest⟩ after = behindS ⟨⟨kind, row, at_, n, nodes, oslot, old, text⟩, k, index, inside, slot, rest⟩ [index - n + 1] := by unfold wrapS; rw [if_neg (by simp; omega), if_neg (by simp; omega), if_neg hk0]
      cases inside
      · skip
        have HF := hid hfin
        clear hfin
        go_enter Tryz.func133, Tryz.ntmps133
        go_wp2_with fail
        go_quiet (fail)
        go_wp2_with fail
        refine (behind_lit _ Ar An As lr cr ln cn cs w _ H.out.1 H.out.2 (by first | exact below_alloc _ _ | exact below_draw (below_alloc _ _) _) [index - n + 1] (by intro x hx; simp only [List.mem_cons, List.not_mem_nil, or_false] at hx; rcases hx with rfl <;> (apply in64_of <;> omega)) (by simp) _ _ rfl (by simp) _ rfl).mono ?_
        rintro e w1 ⟨v1, rfl, hv1, hb1⟩
        have HV := hid hv1
        have HB := hid hb1
        clear hv1 hb1
        go_wp2_with fail
        go_ret
        rw [HF.out]
        exact ⟨_, rfl, HV.out, HB.out⟩
      · skip
        have HF := hid hfin
        clear hfin
        go_enter Tryz.func133, Tryz.ntmps133
        go_wp2_with fail
        go_quiet (fail)
        go_wp2_with fail
        refine (behind_lit _ Ar An As lr cr ln cn cs w _ H.out.1 H.out.2 (by first | exact below_alloc _ _ | exact below_draw (below_alloc _ _) _) [index - n + 1] (by intro x hx; simp only [List.mem_cons, List.not_mem_nil, or_false] at hx; rcases hx with rfl <;> (apply in64_of <;> omega)) (by simp) _ _ rfl (by simp) _ rfl).mono ?_
        rintro e w1 ⟨v1, rfl, hv1, hb1⟩
        have HV := hid hv1
        have HB := hid hb1
        clear hv1 hb1
        go_wp2_with fail
        go_ret
        rw [HF.out]
        exact ⟨_, rfl, HV.out, HB.out⟩
def withinS (pos row:List Int):Bool:=decide (row.length < pos.length∧pos.take row.length = row∧pos.length≠row.length + 2)
end Go.Proofs.YtbjcioknfjofkaaGreat
