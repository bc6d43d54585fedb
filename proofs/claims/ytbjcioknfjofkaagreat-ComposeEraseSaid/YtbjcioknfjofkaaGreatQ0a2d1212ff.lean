/- Texts put together. -/
import Derived.Test.YtbjcioknfjofkaaGreatQfe3dc0b62f
import Derived.Test.YtbjcioknfjofkaaGreatQb55496f77f
import Derived.Test.YtbjcioknfjofkaaGreatQ15642f0ed8
import Derived.Test.YtbjcioknfjofkaaGreatQ2c794c3567
import Derived.Test.YtbjcioknfjofkaaGreatQ9734b91748
import Derived.Deep.RegionHeld3
import Derived.Lib.Strings
import Derived.Deep.QuietTactic
import Derived.BigQuiet
import Derived.Deep.DeepCutAuto
set_option linter.unusedVariables false
set_option linter.unusedSimpArgs false
set_option maxRecDepth 100000
namespace Go.Proofs.YtbjcioknfjofkaaGreat
open Go.RowKit
mutual
def zB0:Tree→Bool
 | .mk k s c ts=>zCh k s && zA5 k c ts.length && zCr k ts
def zCr (k:Int):List Tree→Bool
 | []=>true
 | .mk k' s' c' ts' :: ts=>!((k' == 1) == (k == 1)) && (zCh k' s' && zA5 k' c' ts'.length && zCr k' ts') && zCr k ts
end
theorem zBz (k:Int) (t:Tree) (ts:List Tree):zCr k (t :: ts) = (!((t.kind == 1) == (k == 1)) && zB0 t && zCr k ts):=by
 obtain ⟨k',s',c',ts'⟩:=t
 rw [zCr,zB0];rfl
theorem zM3 (k:Int) {ts:List Tree} {i:Nat} (h:i < ts.length):zCr k (ts.drop i) = (!((ts[i].kind == 1) == (k == 1)) && zB0 ts[i] && zCr k (ts.drop (i + 1))):=by
 rw [List.drop_eq_getElem_cons h,zBz]
theorem zB4 {w w':World} {B:Nat} (h:Below B w.drew w'):Below B w w':=⟨h.os,h.tape,h.output,h.size,h.block⟩
theorem zEl {α:Type} {E:Enc α} {w:World} {xs:List α} {v:Value} (h:zAa E w (Lt w.heap.size) xs v):zAa E w.drew (Lt w.drew.heap.size) xs v:=h.keep (fun _ _=>rfl) (fun _ h=>h)
set_option maxHeartbeats 2000000 in
theorem form_any (t : Tree) : ∀ (w : World) (v : Value) (_ : zAa zAb w (Lt w.heap.size) t.kids v) (_ : t.text.size ≤ maxLen),
    Calls Tryz.prog 65 #[.agg #[.int .i64 t.kind, .string t.text, .int .i64 t.cols, v]] w fun e w' => e = .returned (.bool (zB0 t)) ∧ Below w.heap.size w w' := by
  induction t using Tree.ind with
  | h t ih =>
  obtain ⟨tk, tx, tc, ts⟩ := t
  intro w v hv htx
  simp only [Tree.kind, Tree.text, Tree.cols, Tree.kids] at *
  obtain ⟨A, cap, rs, rfl, hcap, hmax, hrd, hls⟩ := hv
  have HTX : Hid (∀ W, Calls Tryz.prog 101 #[.agg #[.int .i64 tk, .string tx, .int .i64 tc, .slice A ts.length cap]] W fun e w' => e = .returned (.bool (zCh tk tx)) ∧ Below W.heap.size W w') := fun W => text_any tk tc tx A ts.length cap W htx
  have HKI : Hid (∀ W, Calls Tryz.prog 102 #[.agg #[.int .i64 tk, .string tx, .int .i64 tc, .slice A ts.length cap]] W fun e w' => e = .returned (.bool (zA5 tk tc ts.length)) ∧ Below W.heap.size W w') := fun W => kids_any tk tc tx A ts.length cap W (by omega)
  unfold maxLen at hmax
  have hlen : ts.length ≤ 9223372036854775807 := by omega
  have H : Hid (zBk w (Lt w.heap.size) A rs ∧ zAw zAb w (Lt w.heap.size) ts rs) := ⟨hrd, hls⟩
  have HC : Hid (zB0 (.mk tk tx tc ts) = (zCh tk tx && zA5 tk tc ts.length && zCr tk ts)) := by show _ = _; rw [zB0]
  generalize zCh tk tx = b1 at *
  generalize zA5 tk tc ts.length = b2 at *
  have HB0 : Hid (Below w.heap.size w (w.alloc (Obj.cells #[.int .i64 tk, .string tx, .int .i64 tc, .slice A ts.length cap] 24))) := (Below.refl _ _).alloc (Nat.le_refl _) _
  have KB : Hid (∀ W, Below (w.alloc (Obj.cells #[.int .i64 tk, .string tx, .int .i64 tc, .slice A ts.length cap] 24)).heap.size (w.alloc (Obj.cells #[.int .i64 tk, .string tx, .int .i64 tc, .slice A ts.length cap] 24)) W →
      (W.cell? ⟨w.heap.size, 0, none⟩ = some (.int .i64 tk) ∧ W.cell? ⟨w.heap.size, 1, none⟩ = some (.string tx) ∧ W.cell? ⟨w.heap.size, 2, none⟩ = some (.int .i64 tc) ∧ W.cell? ⟨w.heap.size, 3, none⟩ = some (.slice A ts.length cap)) ∧ w.heap.size < W.heap.size) := by
    intro W hW
    have h := (bcell hW).1
    exact ⟨⟨(h _ 0 (by simp)).trans (by rw [World.cell?_alloc_new]; rfl), (h _ 1 (by simp)).trans (by rw [World.cell?_alloc_new]; rfl), (h _ 2 (by simp)).trans (by rw [World.cell?_alloc_new]; rfl), (h _ 3 (by simp)).trans (by rw [World.cell?_alloc_new]; rfl)⟩, by have := hW.size; simp at this; omega⟩
  clear hrd hls
  cases b1 with
  | false =>
    go_enter Tryz.func65, Tryz.ntmps65
    go_wp2_with fail
    refine (HTX.out _).mono ?_
    rintro e w1 ⟨rfl, hb1⟩
    have HB1 := hid (HB0.out.trans (hb1.mono HB0.out.size))
    clear hb1
    go_wp2_with fail
    go_ret
    exact ⟨by rw [HC.out]; rfl, HB1.out⟩
  | true =>
  cases b2 with
  | false =>
    go_enter Tryz.func65, Tryz.ntmps65
    go_wp2_with fail
    refine (HTX.out _).mono ?_
    rintro e w1 ⟨rfl, hb1⟩
    have HB1 := hid (HB0.out.trans (hb1.mono HB0.out.size))
    obtain ⟨⟨m0, m1, m2, m3⟩, z1⟩ := KB.out w1 hb1
    clear hb1
    go_wp2_with fail
    refine (HKI.out _).mono ?_
    rintro e w2 ⟨rfl, hb2⟩
    have HB2 := hid (HB1.out.trans (hb2.mono HB1.out.size))
    clear hb2
    go_wp2_with fail
    go_ret
    exact ⟨by rw [HC.out]; rfl, HB2.out⟩
  | true =>
    have HC2 : Hid (zB0 (.mk tk tx tc ts) = zCr tk ts) := by show _ = _; rw [HC.out]; rfl
    go_enter Tryz.func65, Tryz.ntmps65
    go_wp2_with fail
    refine (HTX.out _).mono ?_
    rintro e w1 ⟨rfl, hb1⟩
    have HB1 := hid hb1
    obtain ⟨⟨m0, m1, m2, m3⟩, z1⟩ := KB.out w1 hb1
    clear hb1
    go_wp2_with fail
    refine (HKI.out _).mono ?_
    rintro e w2 ⟨rfl, hb2⟩
    have HB2 := hid (HB1.out.trans (hb2.mono HB1.out.size))
    clear hb2 m0 m1 m2 m3 z1 HC
    go_wp2_with fail
    go_loopw [3] (fun i wr => Below (w.alloc (Obj.cells #[.int .i64 tk, .string tx, .int .i64 tc, .slice A ts.length cap] 24)).heap.size (w.alloc (Obj.cells #[.int .i64 tk, .string tx, .int .i64 tc, .slice A ts.length cap] 24)) wr ∧ ∃ (k : Nat), k ≤ ts.length ∧ i = .int .i64 k ∧ zCr tk (ts.drop k) = zCr tk ts) (fun i _ => ts.length - (intOf i).toNat)
    case atStart => exact ⟨HB2.out, 0, Nat.zero_le _, rfl, rfl⟩
    case round =>
      obtain ⟨hbr, k, hk, rfl, hrest⟩ := hrel
      have HR := hid hrest
      have hb : Below w.heap.size w wr := HB0.out.trans (hbr.mono HB0.out.size)
      have HBR := hid hbr
      obtain ⟨⟨m0, m1, m2, m3⟩, hz⟩ := KB.out wr hbr
      have HB := hid hb
      clear hrest hbr
      by_cases hlt : k < ts.length
      · obtain ⟨g, o, A', cap', rs', rfl, hg, c0, c1, c2, c3, _, _, hts, hc5, hc6, hrd', hls'⟩ := zAy (H.out.1.keep (Same.of_below hb (Nat.le_refl _)) (Lt.mono hb.size)) (H.out.2.keep (Same.of_below hb (Nat.le_refl _)) (Lt.mono hb.size)) hlt
        have hmem : ts[k] ∈ ts := List.getElem_mem hlt
        have HT := hid (zM3 tk hlt)
        have hg' : g < wr.heap.size := hg
        have HV : Hid (zAa zAb wr (Lt wr.heap.size) ts[k].kids (.slice A' ts[k].kids.length cap')) := ⟨A', cap', rs', rfl, hc5, hc6, hrd', hls'⟩
        have i0 : (k : Int) < (ts.length : Int) := by omega
        have KW : Hid (∀ W, Below wr.heap.size wr W → Below (w.alloc (Obj.cells #[.int .i64 tk, .string tx, .int .i64 tc, .slice (some ⟨g, o, none⟩) ts.length cap] 24)).heap.size (w.alloc (Obj.cells #[.int .i64 tk, .string tx, .int .i64 tc, .slice (some ⟨g, o, none⟩) ts.length cap] 24)) W ∧
            (W.cell? ⟨w.heap.size, 0, none⟩ = some (.int .i64 tk) ∧ W.cell? ⟨w.heap.size, 3, none⟩ = some (.slice (some ⟨g, o, none⟩) ts.length cap)) ∧
            (W.cell? ⟨g, o + k * 4, none⟩ = some (.int .i64 ts[k].kind) ∧ W.cell? ⟨g, o + k * 4 + 1, none⟩ = some (.string ts[k].text) ∧ W.cell? ⟨g, o + k * 4 + 2, none⟩ = some (.int .i64 ts[k].cols) ∧ W.cell? ⟨g, o + k * 4 + 3, none⟩ = some (.slice A' ts[k].kids.length cap'))) := by
          intro W hW
          have h := (bcell hW).1
          exact ⟨HBR.out.trans (hW.mono HBR.out.size), ⟨(h _ 0 hz).trans m0, (h _ 3 hz).trans m3⟩, (h _ _ hg').trans c0, (h _ _ hg').trans c1, (h _ _ hg').trans c2, (h _ _ hg').trans c3⟩
        have HIH : Hid (∀ W v, zAa zAb W (Lt W.heap.size) ts[k].kids v → Calls Tryz.prog 65 #[.agg #[.int .i64 ts[k].kind, .string ts[k].text, .int .i64 ts[k].cols, v]] W fun e w' => e = .returned (.bool (zB0 ts[k])) ∧ Below W.heap.size W w') := fun W v hv => ih ts[k] hmem W v hv hts
        clear hrd' hls' hb hc5 hc6 hts ih
        generalize hb3 : zB0 ts[k] = b3 at *
        clear hb3
        cases hq1 : (ts[k].kind == 1) <;> cases hq2 : (tk == 1)
        case false.false | true.true =>
          rw [hq1, hq2] at HT
          have HF : Hid (zB0 (.mk tk tx tc ts) = false) := by show _ = _; rw [HC2.out, ← HR.out, HT.out]; rfl
          go_wp2_with fail
          go_quiet (fail)
          go_wp2_with fail
          go_ret
          exact ⟨by rw [HF.out]; rfl, by first | exact HB.out | exact HB.out.trans (Below.mono ⟨rfl, rfl, rfl, Nat.le_refl _, fun _ _ => rfl⟩ HB.out.size)⟩
        all_goals
          rw [hq1, hq2] at HT
          cases b3
          · have HF : Hid (zB0 (.mk tk tx tc ts) = false) := by show _ = _; rw [HC2.out, ← HR.out, HT.out]; rfl
            go_wp2_with fail
            go_region_held3 (fun w' => w'.cell? ⟨w.heap.size, 0, none⟩ = some (.int .i64 tk) ∧ w'.cell? ⟨w.heap.size, 3, none⟩ = some (.slice (some ⟨g, o, none⟩) ts.length cap) ∧ w'.cell? ⟨g, o + k * 4, none⟩ = some (.int .i64 ts[k].kind) ∧ w'.cell? ⟨g, o + k * 4 + 1, none⟩ = some (.string ts[k].text) ∧ w'.cell? ⟨g, o + k * 4 + 2, none⟩ = some (.int .i64 ts[k].cols) ∧ w'.cell? ⟨g, o + k * 4 + 3, none⟩ = some (.slice A' ts[k].kids.length cap')) (go_keep) (first
              | (go_at_call 65; refine (HIH.out _ _ (zEl HV.out)).mono ?_; rintro e w3 ⟨rfl, hb3⟩; obtain ⟨p0, ⟨p1, p2⟩, p3, p4, p5, p6⟩ := KW.out w3 (zB4 hb3); have HP := hid p0; clear hb3 p0))
            go_wp2_with fail
            go_ret
            exact ⟨by rw [HF.out]; rfl, HB0.out.trans (HP.out.mono HB0.out.size)⟩
          · have HF : Hid (zCr tk (ts.drop (k + 1)) = zCr tk ts) := by show _ = _; rw [← HR.out, HT.out]; rfl
            go_wp2_with fail
            go_region_held3 (fun w' => w'.cell? ⟨w.heap.size, 0, none⟩ = some (.int .i64 tk) ∧ w'.cell? ⟨w.heap.size, 3, none⟩ = some (.slice (some ⟨g, o, none⟩) ts.length cap) ∧ w'.cell? ⟨g, o + k * 4, none⟩ = some (.int .i64 ts[k].kind) ∧ w'.cell? ⟨g, o + k * 4 + 1, none⟩ = some (.string ts[k].text) ∧ w'.cell? ⟨g, o + k * 4 + 2, none⟩ = some (.int .i64 ts[k].cols) ∧ w'.cell? ⟨g, o + k * 4 + 3, none⟩ = some (.slice A' ts[k].kids.length cap')) (go_keep) (first
              | (go_at_call 65; refine (HIH.out _ _ (zEl HV.out)).mono ?_; rintro e w3 ⟨rfl, hb3⟩; obtain ⟨p0, ⟨p1, p2⟩, p3, p4, p5, p6⟩ := KW.out w3 (zB4 hb3); have HP := hid p0; clear hb3 p0))
            go_wp2_with fail
            go_roundw
            case rel => exact ⟨HP.out, k + 1, by omega, by go_num, HF.out⟩
            case measure => simp [intOf]; omega
      · have HF : Hid (zB0 (.mk tk tx tc ts) = true) := by show _ = _; rw [HC2.out, ← HR.out, List.drop_of_length_le (by omega), zCr]
        go_wp2_with fail
        go_ret
        exact ⟨by rw [HF.out]; rfl, HB.out⟩
theorem zI4 {s t:ByteArray}:s.toList = t.toList ↔ s = t:=by
 constructor
 ·intro h
  rw [Lib.toList_data,Lib.toList_data] at h
  exact ByteArray.ext (Array.toList_inj.1 h)
 ·intro h;rw [h]
mutual
def eqS:Tree→Tree→Bool
 | .mk k s c ts,.mk k' s' c' us=>k == k' && (s.toList == s'.toList && (c == c' && (ts.length == us.length && eqsS ts us)))
def eqsS:List Tree→List Tree→Bool
 | t :: ts,u :: us=>eqS t u && eqsS ts us
 | _,_=>true
end
theorem zL0 {ts us:List Tree} {i:Nat} (h:i < ts.length) (h':i < us.length):eqsS (ts.drop i) (us.drop i) = (eqS ts[i] us[i] && eqsS (ts.drop (i + 1)) (us.drop (i + 1))):=by
 rw [List.drop_eq_getElem_cons h,List.drop_eq_getElem_cons h',eqsS]
mutual
theorem zGs : (t u : Tree) → (eqS t u = true ↔ t = u)
  | .mk k s c ts, .mk k' s' c' us => by
    unfold eqS
    have h := zKm ts us
    simp only [Bool.and_eq_true, beq_iff_eq, Tree.mk.injEq, h, zI4]
theorem zKm : (ts us : List Tree) → ((ts.length = us.length ∧ eqsS ts us = true) ↔ ts = us)
  | [], [] => by simp [eqsS]
  | [], u :: us => by simp
  | t :: ts, [] => by simp
  | t :: ts, u :: us => by
    have h1 := zGs t u
    have h2 := zKm ts us
    simp only [eqsS, List.length_cons, Bool.and_eq_true, List.cons.injEq, Nat.add_right_cancel_iff, ← h2, h1]
    constructor <;> (rintro ⟨a, b, c⟩; exact ⟨b, a, c⟩)
end
set_option maxHeartbeats 1000000 in
theorem zPm (xs ys:List Tree) (w:World) (A A':Option Addr) (cap cap':Nat) (hv:zAa zAb w (Lt w.heap.size) xs (.slice A xs.length cap)) (hu:zAa zAb w (Lt w.heap.size) ys (.slice A' ys.length cap'))
  (hE:∀ t ∈ xs,∀ (u:Tree) (W:World) (v1 v2:Value),zAa zAb W (Lt W.heap.size) t.kids v1→zAa zAb W (Lt W.heap.size) u.kids v2 →
   Calls Tryz.prog 22 #[.agg #[.int .i64 t.kind,.string t.text,.int .i64 t.cols,v1],.agg #[.int .i64 u.kind,.string u.text,.int .i64 u.cols,v2]] W fun e w'=>e = .returned (.bool (eqS t u))∧Below W.heap.size W w') :
  Calls Tryz.prog 53 #[.slice A xs.length cap,.slice A' ys.length cap'] w fun e w'=>e = .returned (.bool (xs.length == ys.length && eqsS xs ys))∧Below w.heap.size w w':=by
 obtain ⟨_,_,rs,hq,hcap,hmax,hrd,hls⟩:=hv
 cases hq
 obtain ⟨_,_,rs',hq,hcap',hmax',hrd',hls'⟩:=hu
 cases hq
 unfold maxLen at hmax hmax'
 have H:Hid (zBk w (Lt w.heap.size) A rs∧zAw zAb w (Lt w.heap.size) xs rs):=⟨hrd,hls⟩
 have H':Hid (zBk w (Lt w.heap.size) A' rs'∧zAw zAb w (Lt w.heap.size) ys rs'):=⟨hrd',hls'⟩
 clear hrd hls hrd' hls'
 have l0:xs.length≤9223372036854775807:=by omega
 have l1:ys.length≤9223372036854775807:=by omega
 by_cases hl:xs.length = ys.length
 ·have b0:((xs.length:Int) != (ys.length:Int)) = false:=by simp [hl]
  have b1:((xs.length:Int) == (ys.length:Int)) = true:=by simp [hl]
  have b2:decide ((xs.length:Int) = (ys.length:Int)) = true:=by simp [hl]
  have HF:Hid ((xs.length == ys.length && eqsS xs ys) = eqsS xs ys):=by show _ = _;simp [hl]
  rw [HF.out]
  clear HF
  have HL:=hid hl
  have hE':=hid hE
  clear hE hl
  go_enter Tryz.func53,Tryz.ntmps53
  go_wp2_with fail
  go_loopw [5] (fun i wr=>Below w.heap.size w wr∧∃ (k:Nat),k≤xs.length∧i = .int .i64 k∧eqsS (xs.drop k) (ys.drop k) = eqsS xs ys) (fun i _=>xs.length - (intOf i).toNat)
  case atStart=>exact ⟨Below.refl _ _,0,Nat.zero_le _,rfl,rfl⟩
  case round =>
   obtain ⟨hb,k,hk,rfl,hrest⟩:=hrel
   have HR:=hid hrest
   have HB:=hid hb
   clear hrest
   by_cases hlt:k < xs.length
   ·have hlt':k < ys.length:=by have:=HL.out;omega
    obtain ⟨g,o,B,bc,bs,rfl,hg,c0,c1,c2,c3,_,_,_,hc5,hc6,hrd,hls⟩:=zAy (H.out.1.keep (Same.of_below hb (Nat.le_refl _)) (Lt.mono hb.size)) (H.out.2.keep (Same.of_below hb (Nat.le_refl _)) (Lt.mono hb.size)) hlt
    obtain ⟨g',o',B',bc',bs',rfl,hg',d0,d1,d2,d3,_,_,_,hd5,hd6,hrd',hls'⟩:=zAy (H'.out.1.keep (Same.of_below hb (Nat.le_refl _)) (Lt.mono hb.size)) (H'.out.2.keep (Same.of_below hb (Nat.le_refl _)) (Lt.mono hb.size)) hlt'
    have hg1:g < wr.heap.size:=hg
    have hg2:g' < wr.heap.size:=hg'
    have hmem:xs[k] ∈ xs:=List.getElem_mem hlt
    have HT:=hid (zL0 hlt hlt')
    have HV:Hid (zAa zAb wr (Lt wr.heap.size) xs[k].kids (.slice B xs[k].kids.length bc)):=⟨B,bc,bs,rfl,hc5,hc6,hrd,hls⟩
    have HV':Hid (zAa zAb wr (Lt wr.heap.size) ys[k].kids (.slice B' ys[k].kids.length bc')):=⟨B',bc',bs',rfl,hd5,hd6,hrd',hls'⟩
    have HC:Hid (Calls Tryz.prog 22 #[.agg #[.int .i64 xs[k].kind,.string xs[k].text,.int .i64 xs[k].cols,.slice B xs[k].kids.length bc],.agg #[.int .i64 ys[k].kind,.string ys[k].text,.int .i64 ys[k].cols,.slice B' ys[k].kids.length bc']] wr.drew fun e w'=>e = .returned (.bool (eqS xs[k] ys[k]))∧Below wr.drew.heap.size wr.drew w') :=
     hE'.out _ hmem ys[k] _ _ _ (zEl HV.out) (zEl HV'.out)
    have KW:Hid (∀ W,Below wr.heap.size wr W→Below w.heap.size w W ∧
      (W.cell? ⟨g,o + k * 4,none⟩ = some (.int .i64 xs[k].kind)∧W.cell? ⟨g,o + k * 4 + 1,none⟩ = some (.string xs[k].text)∧W.cell? ⟨g,o + k * 4 + 2,none⟩ = some (.int .i64 xs[k].cols)∧W.cell? ⟨g,o + k * 4 + 3,none⟩ = some (.slice B xs[k].kids.length bc)) ∧
      (W.cell? ⟨g',o' + k * 4,none⟩ = some (.int .i64 ys[k].kind)∧W.cell? ⟨g',o' + k * 4 + 1,none⟩ = some (.string ys[k].text)∧W.cell? ⟨g',o' + k * 4 + 2,none⟩ = some (.int .i64 ys[k].cols)∧W.cell? ⟨g',o' + k * 4 + 3,none⟩ = some (.slice B' ys[k].kids.length bc'))):=by
     intro W hW
     have h:=(bcell hW).1
     exact ⟨HB.out.trans (hW.mono HB.out.size),⟨(h _ _ hg1).trans c0,(h _ _ hg1).trans c1,(h _ _ hg1).trans c2,(h _ _ hg1).trans c3⟩,(h _ _ hg2).trans d0,(h _ _ hg2).trans d1,(h _ _ hg2).trans d2,(h _ _ hg2).trans d3⟩
    have i0:(k:Int) < (xs.length:Int):=by omega
    clear hrd hls hrd' hls' hb hc5 hc6 hd5 hd6 hE' b0 b1 b2
    generalize hb3:eqS xs[k] ys[k] = b3 at *
    clear hb3
    cases b3
    ·have HF:Hid (eqsS xs ys = false):=by show _ = _;rw [← HR.out,HT.out];rfl
     go_wp2_with fail
     go_region_held3 (fun w'=>w'.cell? ⟨g,o + k * 4,none⟩ = some (.int .i64 xs[k].kind)∧w'.cell? ⟨g,o + k * 4 + 1,none⟩ = some (.string xs[k].text)∧w'.cell? ⟨g,o + k * 4 + 2,none⟩ = some (.int .i64 xs[k].cols)∧w'.cell? ⟨g,o + k * 4 + 3,none⟩ = some (.slice B xs[k].kids.length bc)∧w'.cell? ⟨g',o' + k * 4,none⟩ = some (.int .i64 ys[k].kind)∧w'.cell? ⟨g',o' + k * 4 + 1,none⟩ = some (.string ys[k].text)∧w'.cell? ⟨g',o' + k * 4 + 2,none⟩ = some (.int .i64 ys[k].cols)∧w'.cell? ⟨g',o' + k * 4 + 3,none⟩ = some (.slice B' ys[k].kids.length bc')) (go_keep) (first
      | (go_at_call 22;refine HC.out.mono ?_;rintro e w3 ⟨rfl,hb3⟩;obtain ⟨p0,⟨p1,p2,p3,p4⟩,p5,p6,p7,p8⟩:=KW.out w3 (zB4 hb3);have HP:=hid p0;clear hb3 p0))
     go_wp2_with fail
     go_ret
     exact ⟨by rw [HF.out];rfl,HP.out⟩
    ·have HF:Hid (eqsS (xs.drop (k + 1)) (ys.drop (k + 1)) = eqsS xs ys):=by show _ = _;rw [← HR.out,HT.out];rfl
     go_wp2_with fail
     go_region_held3 (fun w'=>w'.cell? ⟨g,o + k * 4,none⟩ = some (.int .i64 xs[k].kind)∧w'.cell? ⟨g,o + k * 4 + 1,none⟩ = some (.string xs[k].text)∧w'.cell? ⟨g,o + k * 4 + 2,none⟩ = some (.int .i64 xs[k].cols)∧w'.cell? ⟨g,o + k * 4 + 3,none⟩ = some (.slice B xs[k].kids.length bc)∧w'.cell? ⟨g',o' + k * 4,none⟩ = some (.int .i64 ys[k].kind)∧w'.cell? ⟨g',o' + k * 4 + 1,none⟩ = some (.string ys[k].text)∧w'.cell? ⟨g',o' + k * 4 + 2,none⟩ = some (.int .i64 ys[k].cols)∧w'.cell? ⟨g',o' + k * 4 + 3,none⟩ = some (.slice B' ys[k].kids.length bc')) (go_keep) (first
      | (go_at_call 22;refine HC.out.mono ?_;rintro e w3 ⟨rfl,hb3⟩;obtain ⟨p0,⟨p1,p2,p3,p4⟩,p5,p6,p7,p8⟩:=KW.out w3 (zB4 hb3);have HP:=hid p0;clear hb3 p0))
     go_wp2_with fail
     go_roundw
     case rel=>exact ⟨HP.out,k + 1,by omega,by go_num,HF.out⟩
     case measure=>simp [intOf];omega
   ·have HF:Hid (eqsS xs ys = true):=by show _ = _;rw [← HR.out,List.drop_of_length_le (by omega),eqsS];simp
    clear hb
    go_wp2_with fail
    go_ret
    exact ⟨by rw [HF.out];rfl,HB.out⟩
 ·have b0:((xs.length:Int) != (ys.length:Int)) = true:=by simp;omega
  have b1:((xs.length:Int) == (ys.length:Int)) = false:=by simp;omega
  have b2:decide ((xs.length:Int) = (ys.length:Int)) = false:=by simp;omega
  have HF:Hid ((xs.length == ys.length && eqsS xs ys) = false):=by show _ = _;simp [hl]
  clear hE
  go_enter Tryz.func53,Tryz.ntmps53
  go_wp2_with fail
  go_ret
  exact ⟨by rw [HF.out];rfl,Below.refl _ _⟩
set_option maxHeartbeats 1000000 in
theorem zLz (t:Tree):∀ (u:Tree) (w:World) (a b:Value) (_:zAa zAb w (Lt w.heap.size) t.kids a) (_:zAa zAb w (Lt w.heap.size) u.kids b),
  Calls Tryz.prog 22 #[.agg #[.int .i64 t.kind,.string t.text,.int .i64 t.cols,a],.agg #[.int .i64 u.kind,.string u.text,.int .i64 u.cols,b]] w fun e w'=>e = .returned (.bool (eqS t u))∧Below w.heap.size w w':=by
 induction t using Tree.ind with
 | h t ih =>
 obtain ⟨tk,tx,tc,ts⟩:=t
 intro u w a b ha hb
 obtain ⟨uk,ux,uc,us⟩:=u
 simp only [Tree.kind,Tree.text,Tree.cols,Tree.kids] at *
 have HA:=hid ha
 have HB:=hid hb
 obtain ⟨A,cap,_,rfl,_,_,_,_⟩:=ha
 obtain ⟨A',cap',_,rfl,_,_,_,_⟩:=hb
 rename_i h1 h2 h3 h4 h5 h6 h7 h8
 clear h1 h2 h3 h4 h5 h6 h7 h8
 have HC:Hid (∀ W,Below w.heap.size w W→Calls Tryz.prog 53 #[.slice A ts.length cap,.slice A' us.length cap'] W fun e w'=>e = .returned (.bool (ts.length == us.length && eqsS ts us))∧Below W.heap.size W w') :=
  fun W hW=>zPm ts us W A A' cap cap' (HA.out.below hW hW.size) (HB.out.below hW hW.size) ih
 have HE:Hid (eqS (.mk tk tx tc ts) (.mk uk ux uc us) = (tk == uk && (tx.toList == ux.toList && (tc == uc && (ts.length == us.length && eqsS ts us))))):=by show _ = _;rw [eqS]
 rw [HE.out]
 clear HE ih HA HB
 have HW:Hid (Below w.heap.size w ((w.alloc (Obj.cells #[Value.int IntKind.i64 tk,Value.string tx,Value.int IntKind.i64 tc,.slice A ts.length cap] 24)).alloc
   (Obj.cells #[Value.int IntKind.i64 uk,Value.string ux,Value.int IntKind.i64 uc,.slice A' us.length cap'] 24))):=((Below.refl _ _).alloc (Nat.le_refl _) _).alloc (by simp) _
 generalize hq:(ts.length == us.length && eqsS ts us) = b at *
 clear hq
 generalize hq1:(tk == uk) = b1 at *
 generalize hq2:(tx.toList == ux.toList) = b2 at *
 generalize hq3:(tc == uc) = b3 at *
 have hd1:decide (tk = uk) = b1:=by rw [← hq1];simp [Bool.beq_eq_decide_eq]
 have hd3:decide (tc = uc) = b3:=by rw [← hq3];simp [Bool.beq_eq_decide_eq]
 cases b1
 ·go_enter Tryz.func22,Tryz.ntmps22
  go_wp2_with fail
  go_ret
  exact ⟨by rfl,HW.out⟩
 cases b2
 ·go_enter Tryz.func22,Tryz.ntmps22
  go_wp2_with fail
  go_ret
  exact ⟨by rfl,HW.out⟩
 cases b3
 ·go_enter Tryz.func22,Tryz.ntmps22
  go_wp2_with fail
  go_ret
  exact ⟨by rfl,HW.out⟩
 go_enter Tryz.func22,Tryz.ntmps22
 go_wp2_with fail
 refine (HC.out _ HW.out).mono ?_
 rintro e w3 ⟨rfl,hb3⟩
 have HP:=hid (HW.out.trans (hb3.mono HW.out.size))
 clear hb3 HW
 go_wp2_with fail
 go_ret
 exact ⟨by rfl,HP.out⟩
theorem zNr (xs ys:List Tree) (w:World) (a b:Value) (ha:zAa zAb w (Lt w.heap.size) xs a) (hb:zAa zAb w (Lt w.heap.size) ys b) :
  Calls Tryz.prog 53 #[a,b] w fun e w'=>e = .returned (.bool (xs.length == ys.length && eqsS xs ys))∧Below w.heap.size w w':=by
 have ha':=ha
 have hb':=hb
 obtain ⟨A,cap,_,rfl,_,_,_,_⟩:=ha
 obtain ⟨A',cap',_,rfl,_,_,_,_⟩:=hb
 exact zPm xs ys w A A' cap cap' ha' hb' (fun t _ u W v1 v2 h1 h2=>zLz t u W v1 v2 h1 h2)
end Go.Proofs.YtbjcioknfjofkaaGreat
namespace Go.Proofs.YtbjcioknfjofkaaGreat
theorem Tree.ind' {P : Tree → Prop} (h : ∀ t : Tree, (∀ k ∈ t.kids, ∀ u ∈ k.kids, P u) → P t) : ∀ t, P t := by
  intro t
  have : ∀ (n : Nat) (t : Tree), zAe t ≤ n → P t := by
    intro n
    induction n with
    | zero => intro t ht; have : 0 < zAe t := by cases t; rw [zAe]; omega
              omega
    | succ n ih =>
      intro t ht
      have key : ∀ (ts : List Tree), ∀ k ∈ ts, zAe k ≤ zAd ts := by
        intro ts
        induction ts with
        | nil => simp
        | cons u us ih => intro k hk; rw [zAd]; rcases List.mem_cons.1 hk with rfl | hk
                          · omega
                          · have := ih k hk; omega
      refine h t fun k hk u hu => ih u ?_
      cases t with
      | mk a b c ts => cases k with
        | mk a' b' c' us =>
        rw [zAe] at ht
        have h1 := key ts _ hk
        rw [zAe] at h1
        have h2 := key us u hu
        omega
  exact this _ t (Nat.le_refl _)
mutual
def allS (path:List Int):Tree→List (List Int)
 | .mk _ _ _ ts=>zBu path 0 ts
def zBu (path:List Int) (i:Nat):List Tree→List (List Int)
 | []=>[path ++ [(i:Int)]]
 | .mk _ _ _ us :: ts=>(path ++ [(i:Int)]) :: (zCi path i 0 us ++ zBu path (i + 1) ts)
def zCi (path:List Int) (i k:Nat):List Tree→List (List Int)
 | []=>[]
 | u :: us=>allS (path ++ [(i:Int),(k:Int)]) u ++ zCi path i (k + 1) us
end
theorem zKs (path:List Int) (t:Tree):allS path t = zBu path 0 t.kids:=by cases t;rw [allS];rfl
theorem zFr (path:List Int) (i:Nat) (t:Tree) (ts:List Tree):zBu path i (t :: ts) = (path ++ [(i:Int)]) :: (zCi path i 0 t.kids ++ zBu path (i + 1) ts):=by cases t;rw [zBu];rfl
def zAs : Tree → List Int → Bool
  | t, i :: k :: p =>
    if hi : 0 ≤ i ∧ i.toNat < t.kids.length then
      if hk : 0 ≤ k ∧ k.toNat < (t.kids[i.toNat]'hi.2).kids.length then zAs ((t.kids[i.toNat]'hi.2).kids[k.toNat]'hk.2) p else false
    else false
  | t, [i] => decide (0 ≤ i ∧ i ≤ t.kids.length)
  | _, [] => false
theorem zF7 (path : List Int) (i : Nat) (q : List Int) : ∀ (us : List Tree) (k : Nat), q ∈ zCi path i k us ↔ ∃ (j : Nat) (h : j < us.length), q ∈ allS (path ++ [(i : Int), ((k + j : Nat) : Int)]) us[j] := by
  intro us
  induction us with
  | nil => intro k; simp [zCi]
  | cons u us ih =>
    intro k
    rw [zCi, List.mem_append, ih]
    constructor
    · rintro (h | ⟨j, h, hq⟩)
      · exact ⟨0, by simp, by simpa using h⟩
      · refine ⟨j + 1, by simpa using h, ?_⟩
        rw [show k + (j + 1) = k + 1 + j by omega]; simpa using hq
    · rintro ⟨j, h, hq⟩
      cases j with
      | zero => left; simpa using hq
      | succ j => right; refine ⟨j, by simpa using h, ?_⟩; rw [show k + 1 + j = k + (j + 1) by omega]; simpa using hq
theorem zLj (path : List Int) (q : List Int) : ∀ (ts : List Tree) (i : Nat), q ∈ zBu path i ts ↔ (∃ j, j ≤ ts.length ∧ q = path ++ [((i + j : Nat) : Int)]) ∨ ∃ (j : Nat) (h : j < ts.length), q ∈ zCi path (i + j) 0 ts[j].kids := by
  intro ts
  induction ts with
  | nil =>
    intro i
    simp only [zBu, List.mem_singleton, List.length_nil]
    constructor
    · intro h; exact .inl ⟨0, Nat.le_refl _, h⟩
    · rintro (⟨j, hj, h⟩ | ⟨j, hj, _⟩)
      · obtain rfl : j = 0 := by omega
        exact h
      · omega
  | cons t ts ih =>
    intro i
    rw [zFr, List.mem_cons, List.mem_append, ih]
    constructor
    · rintro (h | h | ⟨j, hj, h⟩ | ⟨j, hj, h⟩)
      · exact .inl ⟨0, by simp, h⟩
      · exact .inr ⟨0, by simp, by simpa using h⟩
      · exact .inl ⟨j + 1, by simpa using hj, by rw [h, show i + (j + 1) = i + 1 + j by omega]⟩
      · refine .inr ⟨j + 1, by simpa using hj, ?_⟩
        rw [show i + (j + 1) = i + 1 + j by omega]; simpa using h
    · rintro (⟨j, hj, h⟩ | ⟨j, hj, h⟩)
      · cases j with
        | zero => exact .inl h
        | succ j => exact .inr (.inr (.inl ⟨j, by simpa using hj, by rw [h, show i + (j + 1) = i + 1 + j by omega]⟩))
      · cases j with
        | zero => exact .inr (.inl (by simpa using h))
        | succ j =>
          refine .inr (.inr (.inr ⟨j, by simpa using hj, ?_⟩))
          rw [show i + 1 + j = i + (j + 1) by omega]; simpa using h
theorem zHi (t : Tree) : ∀ (path q : List Int), q ∈ allS path t ↔ ∃ r, q = path ++ r ∧ zAs t r = true := by
  induction t using Tree.ind' with
  | h t ih =>
  intro path q
  rw [zKs, zLj]
  constructor
  · rintro (⟨j, hj, rfl⟩ | ⟨j, hj, h⟩)
    · exact ⟨_, rfl, by simp only [zAs, decide_eq_true_eq]; omega⟩
    · rw [zF7] at h
      obtain ⟨k, hk, h⟩ := h
      rw [ih t.kids[j] (List.getElem_mem hj) _ (List.getElem_mem hk)] at h
      obtain ⟨r, rfl, hr⟩ := h
      refine ⟨((0 + j : Nat) : Int) :: ((0 + k : Nat) : Int) :: r, by simp, ?_⟩
      simp only [Nat.zero_add, zAs, Int.natCast_nonneg, Int.toNat_natCast, true_and, hj, hk, dif_pos]
      exact hr
  · rintro ⟨r, rfl, hr⟩
    match r, hr with
    | [i], hr =>
      simp only [zAs, decide_eq_true_eq] at hr
      exact .inl ⟨i.toNat, by omega, by rw [show ((0 + i.toNat : Nat) : Int) = i by omega]⟩
    | i :: k :: r, hr =>
      simp only [zAs] at hr
      split at hr
      · rename_i hi
        split at hr
        · rename_i hk
          refine .inr ⟨i.toNat, hi.2, ?_⟩
          rw [zF7]
          refine ⟨k.toNat, hk.2, ?_⟩
          rw [ih _ (List.getElem_mem hi.2) _ (List.getElem_mem hk.2)]
          exact ⟨r, by rw [show ((0 + i.toNat : Nat) : Int) = i by omega, show ((0 + k.toNat : Nat) : Int) = k by omega]; simp, hr⟩
        · cases hr
      · cases hr
    | [], hr => simp [zAs] at hr
theorem zKj {t:Tree} {q:List Int}:q ∈ allS [] t ↔ zAs t q = true:=by rw [zHi];simp
theorem zD5:∀ (p a b:List Int),cmpS (p ++ a) (p ++ b) = cmpS a b
 | [],a,b=>rfl
 | x :: p,a,b=>by rw [List.cons_append,List.cons_append,cmpS,if_neg (by omega),if_neg (by omega)];exact zD5 p a b
theorem zGf:∀ a,cmpS a a = 0
 | []=>rfl
 | x :: a=>by rw [cmpS,if_neg (by omega),if_neg (by omega)];exact zGf a
theorem zO3 : ∀ a b, cmpS a b = -1 ∨ cmpS a b = 0 ∨ cmpS a b = 1
  | [], [] => by simp [cmpS]
  | [], _ :: _ => by simp [cmpS]
  | _ :: _, [] => by simp [cmpS]
  | x :: a, y :: b => by
    rw [cmpS]
    split
    · simp
    · split
      · simp
      · exact zO3 a b
theorem zL8 : ∀ a b, cmpS b a = - cmpS a b
  | [], [] => by simp [cmpS]
  | [], _ :: _ => by simp [cmpS]
  | _ :: _, [] => by simp [cmpS]
  | x :: a, y :: b => by
    have ih := zL8 a b
    rw [cmpS, cmpS]
    by_cases h1 : x < y
    · rw [if_neg (by omega), if_pos h1, if_pos h1]; rfl
    · by_cases h2 : y < x
      · rw [if_pos h2, if_neg h1, if_pos h2]
      · rw [if_neg h2, if_neg h1, if_neg h1, if_neg h2, ih]
def ltS (a b:List Int):Prop:=cmpS a b < 0
theorem zJl (path:List Int):∀ (ts:List Tree) (i:Nat) (q:List Int),q ∈ zBu path i ts→∃ (x:Int) (r:List Int),q = path ++ x :: r∧(i:Int)≤x:=by
 intro ts i q h
 rw [zLj] at h
 rcases h with ⟨j,_,rfl⟩ | ⟨j,hj,h⟩
 ·exact ⟨_,[],rfl,by omega⟩
 ·rw [zF7] at h
  obtain ⟨k,hk,h⟩:=h
  rw [zHi] at h
  obtain ⟨r,rfl,_⟩:=h
  exact ⟨((i + j:Nat):Int),_,by simp only [List.append_assoc,List.cons_append,List.nil_append];rfl,by omega⟩
theorem zGk (path:List Int) (i k:Nat) (us:List Tree) (q:List Int) (h:q ∈ zCi path i k us):∃ (y:Int) (r:List Int),q = path ++ (i:Int) :: y :: r∧(k:Int)≤y:=by
 rw [zF7] at h
 obtain ⟨j,hj,h⟩:=h
 rw [zHi] at h
 obtain ⟨r,rfl,_⟩:=h
 exact ⟨((k + j:Nat):Int),r,by simp,by omega⟩
mutual
theorem zFv (path : List Int) : (t : Tree) → (allS path t).Pairwise ltS
  | .mk _ _ _ ts => by rw [allS]; exact zGb path 0 ts
theorem zGb (path : List Int) (i : Nat) : (ts : List Tree) → (zBu path i ts).Pairwise ltS
  | [] => by rw [zBu]; exact List.pairwise_singleton _ _
  | .mk _ _ _ us :: ts => by
    rw [zBu, List.pairwise_cons]
    refine ⟨fun q hq => ?_, ?_⟩
    · rcases List.mem_append.1 hq with hq | hq
      · obtain ⟨y, r, rfl, _⟩ := zGk path i 0 us q hq
        unfold ltS; rw [zD5, cmpS, if_neg (by omega), if_neg (by omega), cmpS]; decide
      · obtain ⟨x, r, rfl, hx⟩ := zJl path ts (i + 1) q hq
        unfold ltS; rw [zD5, cmpS, if_pos (by omega)]; decide
    · rw [List.pairwise_append]
      refine ⟨zFz path i 0 us, zGb path (i + 1) ts, fun a ha b hb => ?_⟩
      obtain ⟨y, r, rfl, _⟩ := zGk path i 0 us a ha
      obtain ⟨x, s, rfl, hx⟩ := zJl path ts (i + 1) b hb
      unfold ltS; rw [zD5, cmpS, if_pos (by omega)]; decide
theorem zFz (path : List Int) (i k : Nat) : (us : List Tree) → (zCi path i k us).Pairwise ltS
  | [] => by rw [zCi]; exact List.Pairwise.nil
  | u :: us => by
    rw [zCi, List.pairwise_append]
    refine ⟨zFv _ u, zFz path i (k + 1) us, fun a ha b hb => ?_⟩
    rw [zHi] at ha
    obtain ⟨r, rfl, _⟩ := ha
    obtain ⟨y, s, rfl, hy⟩ := zGk path i (k + 1) us b hb
    unfold ltS; rw [List.append_assoc, zD5]; show cmpS ((i : Int) :: (k : Int) :: r) _ < 0
    rw [cmpS, if_neg (by omega), if_neg (by omega), cmpS, if_pos (by omega)]; decide
end
mutual
def cntS:Tree→Nat
 | .mk _ _ _ ts=>zG2 ts
def zG2:List Tree→Nat
 | []=>1
 | .mk _ _ _ us :: ts=>1 + (zGw us + zG2 ts)
def zGw:List Tree→Nat
 | []=>0
 | u :: us=>cntS u + zGw us
end
mutual
theorem zHl (path:List Int):(t:Tree)→(allS path t).length = cntS t
 | .mk _ _ _ ts=>by rw [allS,cntS];exact zJm path 0 ts
theorem zJm (path:List Int) (i:Nat):(ts:List Tree)→(zBu path i ts).length = zG2 ts
 | []=>by rw [zBu,zG2];rfl
 | .mk _ _ _ us :: ts=>by rw [zBu,zG2,List.length_cons,List.length_append,zI5 path i 0 us,zJm path (i + 1) ts];omega
theorem zI5 (path:List Int) (i k:Nat):(us:List Tree)→(zCi path i k us).length = zGw us
 | []=>by rw [zCi,zGw];rfl
 | u :: us=>by rw [zCi,zGw,List.length_append,zHl _ u,zI5 path i (k + 1) us]
end
mutual
theorem zKp:(t:Tree)→cntS t≤2 * zAe t
 | .mk _ _ _ ts=>by rw [cntS,zAe];have:=zLr ts;omega
theorem zLr:(ts:List Tree)→zG2 ts≤1 + 2 * zAd ts
 | []=>by rw [zG2];omega
 | .mk _ _ _ us :: ts=>by rw [zG2,zAd,zAe];have:=zK1 us;have:=zLr ts;omega
theorem zK1:(us:List Tree)→zGw us≤2 * zAd us
 | []=>by rw [zGw];omega
 | u :: us=>by rw [zGw,zAd];have:=zKp u;have:=zK1 us;omega
end
theorem zJt {t:Tree} {j:Nat} (h:j < t.kids.length):zBc t.kids[j] + 1≤zBc t:=by
 obtain ⟨_,_,_,ts⟩:=t
 simp only [Tree.kids] at *
 rw [zBc]
 have h1:=zFm (ts.take j) (ts.drop j)
 rw [List.take_append_drop,List.drop_eq_getElem_cons (show j < ts.length from h),zBb] at h1
 omega
theorem zDv {t:Tree} {j:Nat} (h:j < t.kids.length):zAe t.kids[j] + 1≤zAe t:=by
 obtain ⟨_,_,_,ts⟩:=t
 simp only [Tree.kids] at *
 rw [zAe]
 have h1:=zB8 (ts.take j) (ts.drop j)
 rw [List.take_append_drop,List.drop_eq_getElem_cons (show j < ts.length from h),zAd] at h1
 omega
theorem zAn (t:Tree):t.kids.length + 1≤zAe t:=by
 obtain ⟨_,_,_,ts⟩:=t
 simp only [Tree.kids]
 rw [zAe]
 have:ts.length≤zAd ts:=by
  induction ts with
  | nil=>simp
  | cons u us ih=>obtain ⟨_,_,_,vs⟩:=u;rw [zAd,zAe,List.length_cons];omega
 omega
theorem zKd (t : Tree) : ∀ (q : List Int), zAs t q = true → q.length ≤ zBc t ∧ ∀ x ∈ q, 0 ≤ x ∧ x ≤ zAe t := by
  induction t using Tree.ind' with
  | h t ih =>
  intro q hq
  have hkc := zAn t
  match q, hq with
  | [i], hq =>
    simp only [zAs, decide_eq_true_eq] at hq
    refine ⟨?_, by simp; omega⟩
    obtain ⟨_, _, _, ts⟩ := t
    rw [zBc]; simp
  | i :: k :: r, hq =>
    simp only [zAs] at hq
    split at hq
    · rename_i hi
      split at hq
      · rename_i hk
        obtain ⟨h1, h2⟩ := ih _ (List.getElem_mem hi.2) _ (List.getElem_mem hk.2) r hq
        have d1 := zJt hi.2
        have d2 := zJt hk.2
        have c1 := zDv hi.2
        have c2 := zDv hk.2
        have k2 := zAn (t.kids[i.toNat]'hi.2)
        refine ⟨by simp only [List.length_cons]; omega, ?_⟩
        intro x hx
        simp only [List.mem_cons] at hx
        rcases hx with rfl | rfl | hx
        · omega
        · omega
        · have := h2 x hx; omega
      · cases hq
    · cases hq
  | [], hq => simp [zAs] at hq
end Go.Proofs.YtbjcioknfjofkaaGreat
namespace Go.Proofs.YtbjcioknfjofkaaGreat
open Go.RowKit
def zAf (t:Tree):Bool:=(t.kind == 1) && zB0 t && decide ((zAe t:Int)≤1000) && decide ((zBc t:Int)≤24)
def NBox (W:World) (b:Nat) (k c:Int) (s:ByteArray) (v:Value):Prop :=
 W.cell? ⟨b,0,none⟩ = some (.int .i64 k)∧W.cell? ⟨b,1,none⟩ = some (.string s)∧W.cell? ⟨b,2,none⟩ = some (.int .i64 c)∧W.cell? ⟨b,3,none⟩ = some v
theorem NBox.new (w:World) (k c:Int) (s:ByteArray) (v:Value):NBox (w.alloc (Obj.cells #[.int .i64 k,.string s,.int .i64 c,v] 24)) w.heap.size k c s v :=
 ⟨by rw [World.cell?_alloc_new];rfl,by rw [World.cell?_alloc_new];rfl,by rw [World.cell?_alloc_new];rfl,by rw [World.cell?_alloc_new];rfl⟩
theorem NBox.below {W W':World} {B b:Nat} {k c:Int} {s:ByteArray} {v:Value} (h:NBox W b k c s v) (hb:Below B W W') (hB:b < B):NBox W' b k c s v :=
 ⟨((bcell hb).1 _ _ hB).trans h.1,((bcell hb).1 _ _ hB).trans h.2.1,((bcell hb).1 _ _ hB).trans h.2.2.1,((bcell hb).1 _ _ hB).trans h.2.2.2⟩
set_option maxHeartbeats 1000000 in
theorem zDx (t : Tree) (A : Option Addr) (cap : Nat) (w : World) (hv : zAa zAb w (Lt w.heap.size) t.kids (.slice A t.kids.length cap)) (htx : t.text.size ≤ maxLen) (hct : zAe t ≤ 1000000000) :
    Calls Tryz.prog 35 #[.agg #[.int .i64 t.kind, .string t.text, .int .i64 t.cols, .slice A t.kids.length cap]] w fun e w' => e = .returned (.bool (zAf t)) ∧ Below w.heap.size w w' := by
  have C1 : Hid (∀ W, Below w.heap.size w W → Calls Tryz.prog 65 #[.agg #[.int .i64 t.kind, .string t.text, .int .i64 t.cols, .slice A t.kids.length cap]] W fun e w' => e = .returned (.bool (zB0 t)) ∧ Below W.heap.size W w') := fun W hW => form_any t W _ (hv.below hW hW.size) htx
  have C2 : Hid (∀ W, Below w.heap.size w W → Calls Tryz.prog 66 #[.agg #[.int .i64 t.kind, .string t.text, .int .i64 t.cols, .slice A t.kids.length cap]] W fun e w' => e = .returned (.int .i64 (zAe t)) ∧ Below W.heap.size W w') := fun W hW => zQo t W _ (hv.below hW hW.size) hct
  have C3 : Hid (∀ W, Below w.heap.size w W → Calls Tryz.prog 67 #[.agg #[.int .i64 t.kind, .string t.text, .int .i64 t.cols, .slice A t.kids.length cap]] W fun e w' => e = .returned (.int .i64 (zBc t)) ∧ Below W.heap.size W w') := fun W hW => zQn t W _ (hv.below hW hW.size) hct
  have HF : Hid (zAf t = ((t.kind == 1) && zB0 t && decide ((zAe t : Int) ≤ 1000) && decide ((zBc t : Int) ≤ 24))) := rfl
  generalize zB0 t = b2 at *
  generalize zAe t = n1 at *
  generalize zBc t = n2 at *
  generalize hvs : zAf t = b at *
  obtain ⟨tk, tx, tc, ts⟩ := t
  simp only [Tree.kind, Tree.text, Tree.cols, Tree.kids] at *
  have HB0 : Hid (Below w.heap.size w (w.alloc (Obj.cells #[.int .i64 tk, .string tx, .int .i64 tc, .slice A ts.length cap] 24))) := (Below.refl _ _).alloc (Nat.le_refl _) _
  have KB : Hid (∀ W, Below (w.alloc (Obj.cells #[.int .i64 tk, .string tx, .int .i64 tc, .slice A ts.length cap] 24)).heap.size (w.alloc (Obj.cells #[.int .i64 tk, .string tx, .int .i64 tc, .slice A ts.length cap] 24)) W → NBox W w.heap.size tk tc tx (.slice A ts.length cap)) :=
    fun W hW => (NBox.new w tk tc tx _).below hW (by simp)
  clear hv htx hct hvs
  cases h1 : (tk == 1) with
  | false =>
    have HG : Hid (b = false) := by show _ = _; rw [HF.out, h1]; rfl
    go_enter Tryz.func35, Tryz.ntmps35
    go_wp2_with fail
    go_ret
    exact ⟨by rw [HG.out]; rfl, HB0.out⟩
  | true =>
  cases b2 with
  | false =>
    have HG : Hid (b = false) := by show _ = _; rw [HF.out]; simp
    go_enter Tryz.func35, Tryz.ntmps35
    go_wp2_with fail
    refine (C1.out _ HB0.out).mono ?_
    rintro e w1 ⟨rfl, hb1⟩
    have HB1 := hid (HB0.out.trans (hb1.mono HB0.out.size))
    clear hb1
    go_wp2_with fail
    go_ret
    exact ⟨by rw [HG.out]; rfl, HB1.out⟩
  | true =>
  by_cases h3 : (n1 : Int) ≤ 1000
  rotate_left
  · have HG : Hid (b = false) := by show _ = _; rw [HF.out, decide_eq_false h3]; simp
    have d3 : decide ((n1 : Int) ≤ 1000) = false := decide_eq_false h3
    clear h3
    go_enter Tryz.func35, Tryz.ntmps35
    go_wp2_with fail
    refine (C1.out _ HB0.out).mono ?_
    rintro e w1 ⟨rfl, hb1⟩
    have HB1 := hid (HB0.out.trans (hb1.mono HB0.out.size))
    obtain ⟨m0, m1, m2, m3⟩ := KB.out w1 hb1
    clear hb1
    go_wp2_with fail
    refine (C2.out _ HB1.out).mono ?_
    rintro e w2 ⟨rfl, hb2⟩
    have HB2 := hid (HB1.out.trans (hb2.mono HB1.out.size))
    clear hb2
    go_wp2_with fail
    go_ret
    exact ⟨by rw [HG.out]; rfl, HB2.out⟩
  · have HG : Hid (b = decide ((n2 : Int) ≤ 24)) := by show _ = _; rw [HF.out, h1, decide_eq_true h3]; rfl
    go_enter Tryz.func35, Tryz.ntmps35
    go_wp2_with fail
    refine (C1.out _ HB0.out).mono ?_
    rintro e w1 ⟨rfl, hb1⟩
    have HB1 := hid (HB0.out.trans (hb1.mono HB0.out.size))
    have HV1 := hid hb1
    obtain ⟨m0, m1, m2, m3⟩ := KB.out w1 hb1
    clear hb1
    go_wp2_with fail
    refine (C2.out _ HB1.out).mono ?_
    rintro e w2 ⟨rfl, hb2⟩
    have HB2 := hid (HB1.out.trans (hb2.mono HB1.out.size))
    obtain ⟨p0, p1, p2, p3⟩ := KB.out w2 (HV1.out.trans (hb2.mono HV1.out.size))
    clear hb2
    go_wp2_with fail
    refine (C3.out _ HB2.out).mono ?_
    rintro e w3 ⟨rfl, hb3⟩
    have HB3 := hid (HB2.out.trans (hb3.mono HB2.out.size))
    clear hb3
    go_wp2_with fail
    go_ret
    exact ⟨by rw [HG.out]; rfl, HB3.out⟩
def rowT (ts:List Tree):Tree:=.mk 1 ⟨#[]⟩ 0 ts
theorem rows3 {w w':World} {S:Nat→Prop} {a b c:List Int} {va vb vc:Value} (ha:zAh w S a va) (hb:zAh w S b vb) (hc:zAh w S c vc) (e:TypeId) (he:w' = w.alloc (.cells #[va,vb,vc] e)) (hS:∀ k,S k→k < w.heap.size) (g:Nat) (hg:g = w.heap.size) :
  zAa (zC0 intE) w' (Lt w'.heap.size) [a,b,c] (.slice (some ⟨g,0,none⟩) 3 3):=by
 subst he hg
 have hk:Same S w (w.alloc (.cells #[va,vb,vc] e)):=fun p hp=>World.cell?_alloc_lt w _ p (hS _ hp)
 have hm:∀ k,S k→Lt (w.alloc (.cells #[va,vb,vc] e)).heap.size k:=fun k h=>by have:=hS k h;unfold Lt;simp;omega
 refine ⟨_,_,[va,vb,vc],rfl,Nat.le_refl _,by simp [maxLen],fun _=>⟨w.heap.size,0,rfl,by unfold Lt;simp,fun j u hu=>?_⟩,?_⟩
 ·rw [Nat.zero_add,World.cell?_alloc_new];simpa using hu
 ·exact ⟨[va],_,rfl,⟨va,rfl,ha.keep hk hm⟩,[vb],_,rfl,⟨vb,rfl,hb.keep hk hm⟩,[vc],_,rfl,⟨vc,rfl,hc.keep hk hm⟩,rfl⟩
theorem rows2 {w w':World} {S:Nat→Prop} {a b:List Int} {va vb:Value} (ha:zAh w S a va) (hb:zAh w S b vb) (e:TypeId) (he:w' = w.alloc (.cells #[va,vb] e)) (hS:∀ k,S k→k < w.heap.size) (g:Nat) (hg:g = w.heap.size) :
  zAa (zC0 intE) w' (Lt w'.heap.size) [a,b] (.slice (some ⟨g,0,none⟩) 2 2):=by
 subst he hg
 have hk:Same S w (w.alloc (.cells #[va,vb] e)):=fun p hp=>World.cell?_alloc_lt w _ p (hS _ hp)
 have hm:∀ k,S k→Lt (w.alloc (.cells #[va,vb] e)).heap.size k:=fun k h=>by have:=hS k h;unfold Lt;simp;omega
 refine ⟨_,_,[va,vb],rfl,Nat.le_refl _,by simp [maxLen],fun _=>⟨w.heap.size,0,rfl,by unfold Lt;simp,fun j u hu=>?_⟩,?_⟩
 ·rw [Nat.zero_add,World.cell?_alloc_new];simpa using hu
 ·exact ⟨[va],_,rfl,⟨va,rfl,ha.keep hk hm⟩,[vb],_,rfl,⟨vb,rfl,hb.keep hk hm⟩,rfl⟩
theorem zNi (w:World) (o:Obj):Below w.heap.size w (w.alloc o):=(Below.refl _ _).alloc (Nat.le_refl _) _
theorem zO8 {B:Nat} {w w':World} (h:Below B w w') (n:Nat):Below B w (w'.drewN n):=h.trans (Below.mono ⟨rfl,rfl,rfl,Nat.le_refl _,fun _ _=>rfl⟩ (Nat.le_refl _))
theorem zF6:(Tryz.prog.info? 24).map (fun i=>(i.zero,i.size,i.bytes)) = some (some (.agg #[.int .i64 0,.string ⟨#[]⟩,.int .i64 0,.slice none 0 0]),4,56):=by kernel_rfl
def OwnT (w:World) (b:Nat) (S:Nat→Prop) (ts:List Tree) (v:Value):Prop:=∃ cs,w.ownsRow b 24 4 v ts.length cs∧zAw zAb w S ts cs
theorem OwnT.empty (w:World) (S:Nat→Prop):OwnT (w.alloc (.cells #[] 24)) w.heap.size S [] (.slice (some ⟨w.heap.size,0,none⟩) 0 0) :=
 ⟨[],World.ownsRow_made (base:=w.heap.size) (e:=24) (size:=4) w #[] 0 (Nat.le_refl _) (Nat.zero_le _) rfl,rfl⟩
theorem OwnT.form {w:World} {b:Nat} {S:Nat→Prop} {ts:List Tree} {v:Value} (h:OwnT w b S ts v):∃ A c,v = .slice A ts.length c:=by
 obtain ⟨cs,⟨_,h1⟩,_⟩:=h
 rcases h1 with ⟨rfl,h0⟩ | ⟨g,cap,cur,rfl,_⟩
 ·exact ⟨none,0,by rw [h0]⟩
 ·exact ⟨_,_,rfl⟩
theorem OwnT.some_ {w:World} {b:Nat} {S:Nat→Prop} {ts:List Tree} {v:Value} (h:OwnT w b S ts v) (h0:0 < ts.length):∃ g c,v = .slice (some ⟨g,0,none⟩) ts.length c∧b≤g∧g < w.heap.size∧∀ j,j < ts.length * 4→(∃ u,w.cell? ⟨g,j,none⟩ = some u)∧w.frozen? ⟨g,j,none⟩ = false:=by
 obtain ⟨cs,⟨hl,h1⟩,_⟩:=h
 rcases h1 with ⟨rfl,h1⟩ | ⟨g,cap,cur,rfl,hg,hh,hn,hm,hc,hx⟩
 ·omega
 ·refine ⟨g,cap,rfl,hg,(Array.getElem?_eq_some_iff.1 hh).1,fun j hj=>⟨⟨cur[j]'(by rw [hc];have:ts.length * 4≤cap * 4:=Nat.mul_le_mul_right _ hn;omega),?_⟩,?_⟩⟩
  ·rw [cell_of_row w g j cur _ (0,0) hh]
   exact Array.getElem?_eq_getElem _
  ·simp [World.frozen?,hh]
section
variable {w:World} {b:Nat} {S:Nat→Prop} {xss yss:List Tree} {v:Value}
theorem zJf {w':World} {v':Value} {cs rs:List Value} (hBb:∀ k,S k→k < b) (h2:zAw zAb w S xss cs) (hls:zAw zAb w S yss rs)
  (h3:w'.ownsRow b 24 4 v' (xss.length + yss.length) (cs ++ rs)) (hb:Below b w w'):OwnT w' b S (xss ++ yss) v' :=
 ⟨cs ++ rs,by rw [List.length_append];exact h3,(h2.append hls).keep (fun p hp=>hb.cell (hBb _ hp)) (fun _ h=>h)⟩
theorem appT {ops:Array Oper} {rest:List Oper} {o:Oper} {a:Act} {Q:Exit→Act→World→Prop} (hgd:o.guard = none) (s x:Operand)
  (ho:o.op = .call { callee:=.builtin .append,args:=#[s,x],argTypes:=#[22,22] })
  (b:Nat) (S:Nat→Prop) (hBb:∀ k,S k→k < b) (v:Value) (xss yss:List Tree) (hs:a.eval s = v) (hown:OwnT w b S xss v) (A:Option Addr) (m c:Nat) (hx:a.eval x = .slice A m c) (hr:zAa zAb w S yss (.slice A m c))
  (hbound:xss.length + yss.length≤1000000000) (hb:b≤w.heap.size)
  (h:∀ v' w',OwnT w' b S (xss ++ yss) v'→Below b w w'→wpList Tryz.prog ops Q rest (a.put o.dst v') w'):wpList Tryz.prog ops Q (o :: rest) a w:=by
 obtain ⟨i0,hi0,hz0,hz1,hz2⟩:=info_parts zF6
 obtain ⟨A',cap',rs,e,h1,h2,hrd,hls⟩:=hr
 injection e with e1 e2 e3
 subst e1 e2 e3
 obtain ⟨cs,ho1,ho2⟩:=hown
 have hl:=hls.len
 refine zBj w hgd s x 22 ho b 24 i0 _ 4 56 Tryz.underlying22 hi0 hz0 hz1 hz2 rfl (by omega) v _ _ hs ho1 _ A _ c rs hx hl hrd hls.one (by simp only [maxLen];omega) (by omega) hb ?_
 intro v' w' h3 h4 h5
 have hbb:=zBv _ ho1 h4 hb
 exact h v' w' (zJf hBb ho2 hls h3 hbb) hbb
theorem zPh {ops:Array Oper} {o:Oper} {a:Act} {K:Act→World→Prop} {Q:Exit→Act→World→Prop} {E:Prop} (hgd:o.guard = none) (s x:Operand)
  (ho:o.op = .call { callee:=.builtin .append,args:=#[s,x],argTypes:=#[22,22] })
  (b:Nat) (S:Nat→Prop) (hBb:∀ k,S k→k < b) (v:Value) (xss yss:List Tree) (hs:a.eval s = v) (hown:OwnT w b S xss v) (A:Option Addr) (m c:Nat) (hx:a.eval x = .slice A m c) (hr:zAa zAb w S yss (.slice A m c))
  (hbound:xss.length + yss.length≤1000000000) (hb:b≤w.heap.size)
  (h:∀ v' w',OwnT w' b S (xss ++ yss) v'→Below b w w'→K (a.put o.dst v') w') :
  if Region.wanted o (yielded ops a.tmps) = true then Oper.wp Tryz.prog o a w K Q else E:=by
 obtain ⟨i0,hi0,hz0,hz1,hz2⟩:=info_parts zF6
 obtain ⟨A',cap',rs,e,h1,h2,hrd,hls⟩:=hr
 injection e with e1 e2 e3
 subst e1 e2 e3
 obtain ⟨cs,ho1,ho2⟩:=hown
 have hl:=hls.len
 refine zC6 w hgd s x 22 ho b 24 i0 _ 4 56 Tryz.underlying22 hi0 hz0 hz1 hz2 rfl (by omega) v _ _ hs ho1 _ A _ c rs hx hl hrd hls.one (by simp only [maxLen];omega) (by omega) hb ?_
 intro v' w' h3 h4 h5
 have hbb:=zBv _ ho1 h4 hb
 exact h v' w' (zJf hBb ho2 hls h3 hbb) hbb
end
theorem zC4 {w:World} {b o:Nat} {x0 x1 x2 x3:Value} (d0:w.cell? ⟨b,o,none⟩ = some x0) (d1:w.cell? ⟨b,o + 1,none⟩ = some x1) (d2:w.cell? ⟨b,o + 2,none⟩ = some x2) (d3:w.cell? ⟨b,o + 3,none⟩ = some x3) (y0 y1 y2 y3:Value) {W:World}
  (hW:W = (((w.setCell ⟨b,o,none⟩ y0).setCell ⟨b,o + 1,none⟩ y1).setCell ⟨b,o + 2,none⟩ y2).setCell ⟨b,o + 3,none⟩ y3) :
  (W.cell? ⟨b,o,none⟩ = some y0∧W.cell? ⟨b,o + 1,none⟩ = some y1∧W.cell? ⟨b,o + 2,none⟩ = some y2∧W.cell? ⟨b,o + 3,none⟩ = some y3)∧W.heap.size = w.heap.size∧(∀ B a,B≤b→Below B a w→Below B a W) ∧
  (∀ p:Addr,p.block≠b→W.cell? p = w.cell? p)∧(∀ j,j < o∨o + 4≤j→W.cell? ⟨b,j,none⟩ = w.cell? ⟨b,j,none⟩)∧(∀ p:Addr,W.frozen? p = w.frozen? p):=by
 have ne:∀ (i j:Nat),i≠j→(⟨b,i,none⟩:Addr)≠⟨b,j,none⟩:=fun i j h e=>h (by injection e)
 have f:∀ (p:Addr) (j:Nat),p.block≠b→(⟨b,j,none⟩:Addr)≠p:=fun p j h e=>h (by rw [← e])
 subst hW
 refine ⟨⟨?_,?_,?_,?_⟩,by simp [World.setCell],fun B a hB h=>(((h.setCell hB _).setCell hB _).setCell hB _).setCell hB _,fun p hp=>?_,fun j hj=>?_,fun p=>?_⟩
 ·rw [World.cell?_setCell_other (h:=ne _ _ (by omega)),World.cell?_setCell_other (h:=ne _ _ (by omega)),World.cell?_setCell_other (h:=ne _ _ (by omega)),World.cell?_setCell_same (h:=d0)]
 ·rw [World.cell?_setCell_other (h:=ne _ _ (by omega)),World.cell?_setCell_other (h:=ne _ _ (by omega))]
  exact World.cell?_setCell_same _ _ _ (by rw [World.cell?_setCell_other (h:=ne _ _ (by omega))];exact d1)
 ·rw [World.cell?_setCell_other (h:=ne _ _ (by omega))]
  exact World.cell?_setCell_same _ _ _ (by rw [World.cell?_setCell_other (h:=ne _ _ (by omega)),World.cell?_setCell_other (h:=ne _ _ (by omega))];exact d2)
 ·exact World.cell?_setCell_same _ _ _ (by rw [World.cell?_setCell_other (h:=ne _ _ (by omega)),World.cell?_setCell_other (h:=ne _ _ (by omega)),World.cell?_setCell_other (h:=ne _ _ (by omega))];exact d3)
 ·rw [World.cell?_setCell_other (h:=f p _ hp),World.cell?_setCell_other (h:=f p _ hp),World.cell?_setCell_other (h:=f p _ hp),World.cell?_setCell_other (h:=f p _ hp)]
 ·rw [World.cell?_setCell_other (h:=ne _ _ (by omega)),World.cell?_setCell_other (h:=ne _ _ (by omega)),World.cell?_setCell_other (h:=ne _ _ (by omega)),World.cell?_setCell_other (h:=ne _ _ (by omega))]
 ·rw [World.frozen?_setCell,World.frozen?_setCell,World.frozen?_setCell,World.frozen?_setCell]
theorem OwnT.put_ {w Y:World} {b g n c i:Nat} {S:Nat→Prop} {ts:List Tree} {k:Tree} {u:Value} (h:OwnT w b S ts (.slice (some ⟨g,0,none⟩) n c)) (hi:i < ts.length) (hk:zAu k) (hkv:zAa zAb Y S k.kids u) (hY:Same S w Y)
  (d0:Y.cell? ⟨g,i * 4,none⟩ = some (.int .i64 k.kind)) (d1:Y.cell? ⟨g,i * 4 + 1,none⟩ = some (.string k.text)) (d2:Y.cell? ⟨g,i * 4 + 2,none⟩ = some (.int .i64 k.cols)) (d3:Y.cell? ⟨g,i * 4 + 3,none⟩ = some u)
  (ho:∀ j,j < i * 4∨i * 4 + 4≤j→Y.cell? ⟨g,j,none⟩ = w.cell? ⟨g,j,none⟩):zAa zAb Y (fun q=>S q∨q = g) (ts.set i k) (.slice (some ⟨g,0,none⟩) n c):=by
 obtain ⟨cs,h1,h2⟩:=h
 have hlen:=h2.len
 have h3:zAa zAb w (fun q=>S q∨q = g) ts (.slice (some ⟨g,0,none⟩) n c):=zAa.of_own (E:=zAb) h1 (fun q hq=>by simp [Value.ownBlock] at hq;exact .inr hq.symm) (h2.keep (zCu _ _) (fun q hq=>.inl hq))
 obtain ⟨A',c',cs',e,h4,h5,h6,h7⟩:=h3
 injection e with e1 e2 e3
 subst e1 e2 e3
 have hk2:zAw zAb Y (fun q=>S q∨q = g) ts cs:=h2.keep hY (fun q hq=>.inl hq)
 have hr:∀ j x,cs[j]? = some x→w.cell? ⟨g,j,none⟩ = some x:=fun j x hx=>by
  rcases h1.2 with ⟨e,_⟩ | ⟨g',cap,cur,e,hg,hh,p1,p2,p3,p4⟩
  ·cases e
  ·injection e with e1 _ _
   injection e1 with e1
   injection e1 with e1 _ _
   subst e1
   rw [cell_of_row w g j cur _ (0,0) hh]
   rw [← p4,List.getElem?_take] at hx
   split at hx
   ·simpa using hx
   ·cases hx
 have hE:zAb.size = 4:=rfl
 rw [hE] at hlen
 have hnew:zAw zAb Y (fun q=>S q∨q = g) (ts.take i ++ k :: ts.drop (i + 1)) (cs.take (i * 4) ++ ([.int .i64 k.kind,.string k.text,.int .i64 k.cols,u] ++ cs.drop ((i + 1) * 4))):=by
  refine (hk2.take i).append ⟨_,_,rfl,zB1.2 ⟨u,rfl,hk.1,hk.2.1,hk.2.2,hkv.keep (zCu _ _) (fun q hq=>.inl hq)⟩,hk2.drop (i + 1)⟩
 have hset:ts.set i k = ts.take i ++ k :: ts.drop (i + 1):=List.set_eq_take_append_cons_drop.trans (if_pos hi)
 rw [hset]
 refine ⟨some ⟨g,0,none⟩,c,_,by rw [← hset,List.length_set],by rw [← hset,List.length_set];exact h4,h5,fun _=>⟨g,0,rfl,.inr rfl,fun j x hx=>?_⟩,hnew⟩
 rw [Nat.zero_add]
 have hl1:(cs.take (i * 4)).length = i * 4:=by rw [List.length_take];omega
 rcases Nat.lt_or_ge j (i * 4) with hj | hj
 ·rw [List.getElem?_append_left (by omega),List.getElem?_take,if_pos hj] at hx
  rw [ho j (.inl hj)]
  exact hr j x hx
 ·rw [List.getElem?_append_right (by omega),hl1] at hx
  rcases Nat.lt_or_ge j (i * 4 + 4) with hj2 | hj2
  ·rw [List.getElem?_append_left (by simp;omega)] at hx
   obtain ⟨q,rfl⟩:∃ q,j = i * 4 + q:=⟨j - i * 4,by omega⟩
   rw [Nat.add_sub_cancel_left] at hx
   match q,hx,hj2 with
   | 0,hx,_=>cases hx;exact d0
   | 1,hx,_=>cases hx;exact d1
   | 2,hx,_=>cases hx;exact d2
   | 3,hx,_=>cases hx;exact d3
  ·rw [List.getElem?_append_right (by simp;omega)] at hx
   rw [ho j (.inr hj2)]
   refine hr j x ?_
   rw [List.getElem?_drop] at hx
   rw [← hx]
   congr 1
   simp
   omega
theorem blA (w:World) (o:Obj):Below w.heap.size w (w.alloc o):=(Below.refl _ _).alloc (Nat.le_refl _) _
theorem zAp {W X:World} (h:Below W.heap.size W X) (o:Obj):Below W.heap.size W (X.alloc o):=h.alloc h.size o
theorem zAq {W X Y:World} (h:Below W.heap.size W X) (hb:Below X.heap.size X Y):Below W.heap.size W Y:=h.trans (hb.mono h.size)
theorem newC (W:World) (arr:Array Value) (T:TypeId) (b o:Nat) (hb:b = W.heap.size):(W.alloc (.cells arr T)).cell? ⟨b,o,none⟩ = arr[o]?:=by subst hb;exact World.cell?_alloc_new _ _ _ _
theorem newF (W:World) (arr:Array Value) (T:TypeId) (b o:Nat) (hb:b = W.heap.size):(W.alloc (.cells arr T)).frozen? ⟨b,o,none⟩ = false:=by subst hb;exact World.frozen?_alloc_new _ _ _ _
theorem oldC (W:World) (B:Obj) (b o:Nat) (x:Option Value) (hb:b < W.heap.size) (h:W.cell? ⟨b,o,none⟩ = x):(W.alloc B).cell? ⟨b,o,none⟩ = x:=((blA W B).cell (p:=⟨b,o,none⟩) hb).trans h
theorem oldF (W:World) (B:Obj) (b o:Nat) (hb:b < W.heap.size) (h:W.frozen? ⟨b,o,none⟩ = false):(W.alloc B).frozen? ⟨b,o,none⟩ = false:=((blA W B).frozen (p:=⟨b,o,none⟩) hb).trans h
theorem zBd {w:World} {a:Addr} {v:Value} (h:w.cell? a = some v):a.block < w.heap.size:=by
 rcases Nat.lt_or_ge a.block w.heap.size with h1 | h1
 ·exact h1
 ·simp [World.cell?,Array.getElem?_eq_none h1] at h
def zEa (S:Nat→Prop) (w:World) (t:Tree) (e:Ending) (w':World):Prop :=
 ∃ v,e = .returned (.agg #[.int .i64 t.kind,.string t.text,.int .i64 t.cols,v])∧zAa zAb w' (fun q=>S q∨w.heap.size≤q∧q < w'.heap.size) t.kids v∧Below w.heap.size w w'
def zCj (t:Tree) (i:Nat) (k:Tree):Tree:=.mk t.kind t.text t.cols (t.kids.set i k)
def Box4 (W:World) (b:Nat) (k:Int) (s:ByteArray) (c:Int) (v:Value):Prop :=
 W.cell? ⟨b,0,none⟩ = some (.int .i64 k)∧W.cell? ⟨b,1,none⟩ = some (.string s)∧W.cell? ⟨b,2,none⟩ = some (.int .i64 c)∧W.cell? ⟨b,3,none⟩ = some v
theorem Box4.keep {W W':World} {b:Nat} {k:Int} {s:ByteArray} {c:Int} {v:Value} (h:Box4 W b k s c v) (hk:∀ o,W'.cell? ⟨b,o,none⟩ = W.cell? ⟨b,o,none⟩):Box4 W' b k s c v :=
 ⟨(hk 0).trans h.1,(hk 1).trans h.2.1,(hk 2).trans h.2.2.1,(hk 3).trans h.2.2.2⟩
theorem Box4.below {W W':World} {B b:Nat} {k:Int} {s:ByteArray} {c:Int} {v:Value} (h:Box4 W b k s c v) (hb:Below B W W') (hB:b < B):Box4 W' b k s c v:=h.keep fun o=>hb.cell (p:=⟨b,o,none⟩) hB
theorem Box4.new (w:World) (k:Int) (s:ByteArray) (c:Int) (v:Value) (T:TypeId):Box4 (w.alloc (Obj.cells #[.int .i64 k,.string s,.int .i64 c,v] T)) w.heap.size k s c v:=by
 refine ⟨?_,?_,?_,?_⟩ <;> rw [World.cell?_alloc_new] <;> rfl
def zCz (W:World) (b:Nat):Prop:=W.frozen? ⟨b,0,none⟩ = false∧W.frozen? ⟨b,1,none⟩ = false∧W.frozen? ⟨b,2,none⟩ = false∧W.frozen? ⟨b,3,none⟩ = false
theorem zCz.new (w:World) (arr:Array Value) (T:TypeId):zCz (w.alloc (Obj.cells arr T)) w.heap.size :=
 ⟨newF _ _ _ _ _ rfl,newF _ _ _ _ _ rfl,newF _ _ _ _ _ rfl,newF _ _ _ _ _ rfl⟩
theorem zCz.below {W W':World} {B b:Nat} (h:zCz W b) (hb:Below B W W') (hB:b < B):zCz W' b :=
 ⟨(hb.frozen (p:=⟨b,0,none⟩) hB).trans h.1,(hb.frozen (p:=⟨b,1,none⟩) hB).trans h.2.1,(hb.frozen (p:=⟨b,2,none⟩) hB).trans h.2.2.1,(hb.frozen (p:=⟨b,3,none⟩) hB).trans h.2.2.2⟩
set_option maxHeartbeats 4000000 in
theorem zEd (t k : Tree) (i : Nat) (A B : Option Addr) (cap cb : Nat) (w : World) (S : Nat → Prop) (hS : ∀ q, S q → q < w.heap.size) (hi : i < t.kids.length) (hlen : t.kids.length ≤ 1000000) (hk : zAu k) (hv : zAa zAb w S t.kids (.slice A t.kids.length cap)) (hkv : zAa zAb w S k.kids (.slice B k.kids.length cb)) :
    Calls Tryz.prog 116 #[.agg #[.int .i64 t.kind, .string t.text, .int .i64 t.cols, .slice A t.kids.length cap], .int .i64 i, .agg #[.int .i64 k.kind, .string k.text, .int .i64 k.cols, .slice B k.kids.length cb]] w (zEa S w (zCj t i k)) := by
  obtain ⟨tk, tx, tc, ts⟩ := t
  have HK : Hid (zAu k) := hk
  clear hk
  obtain ⟨kk, kx, kc, ks⟩ := k
  simp only [Tree.kind, Tree.text, Tree.cols, Tree.kids, zCj] at *
  have HV := hid hv
  have HKV := hid hkv
  have HI := hid hi
  generalize hW0 : ((w.alloc (Obj.cells #[.int .i64 tk, .string tx, .int .i64 tc, .slice A ts.length cap] 24)).alloc (Obj.cells #[.int .i64 kk, .string kx, .int .i64 kc, .slice B ks.length cb] 24)).alloc (Obj.cells #[.int .i64 0, .string ⟨#[]⟩, .int .i64 0, .slice none 0 0] 24) = W0
  have hz0 : W0.heap.size = w.heap.size + 1 + 1 + 1 := by rw [← hW0]; simp
  have hB0 : Below w.heap.size w W0 := by rw [← hW0]; exact zAp (zAp (blA _ _) _) _
  have hbT : Box4 W0 w.heap.size tk tx tc (.slice A ts.length cap) := by
    rw [← hW0]
    exact ((Box4.new w _ _ _ _ _).below (blA _ _) (by simp)).below (blA _ _) (by simp; omega)
  have hbK : Box4 W0 (w.heap.size + 1) kk kx kc (.slice B ks.length cb) := by
    rw [← hW0]
    have h := (Box4.new (w.alloc (Obj.cells #[.int .i64 tk, .string tx, .int .i64 tc, .slice A ts.length cap] 24)) kk kx kc (.slice B ks.length cb) 24).below (blA _ (Obj.cells #[.int .i64 0, .string ⟨#[]⟩, .int .i64 0, .slice none 0 0] 24)) (by simp)
    simpa using h
  have hbR : Box4 W0 (w.heap.size + 1 + 1) 0 ⟨#[]⟩ 0 (.slice none 0 0) ∧ zCz W0 (w.heap.size + 1 + 1) := by
    rw [← hW0]
    have h := Box4.new ((w.alloc (Obj.cells #[.int .i64 tk, .string tx, .int .i64 tc, .slice A ts.length cap] 24)).alloc (Obj.cells #[.int .i64 kk, .string kx, .int .i64 kc, .slice B ks.length cb] 24)) 0 ⟨#[]⟩ 0 (.slice none 0 0) 24
    have h2 := zCz.new ((w.alloc (Obj.cells #[.int .i64 tk, .string tx, .int .i64 tc, .slice A ts.length cap] 24)).alloc (Obj.cells #[.int .i64 kk, .string kx, .int .i64 kc, .slice B ks.length cb] 24)) #[.int .i64 0, .string ⟨#[]⟩, .int .i64 0, .slice none 0 0] 24
    exact ⟨by simpa using h, by simpa using h2⟩
  have hfT : zCz W0 w.heap.size := by
    rw [← hW0]
    exact ((zCz.new w _ _).below (blA _ _) (by simp)).below (blA _ _) (by simp; omega)
  have HB0 := hid hB0
  have HBT := hid hbT
  have HBK := hid hbK
  have HBR := hid hbR
  have HFT := hid hfT
  have HZ0 := hid hz0
  have m3 := oldC W0 (.cells #[] 24) _ _ _ (by omega) hbT.2.2.2
  have f3 := oldF W0 (.cells #[] 24) _ _ (by omega) hfT.2.2.2
  have HOE := hid (OwnT.empty W0 S)
  have HSS := hid hS
  have HSRC := hid (hv.keep (w' := W0.alloc (.cells #[] 24)) (fun q hq => (zAp hB0 _).cell (hS _ hq)) (fun _ h => h))
  have HT0 : Hid (w.heap.size < W0.heap.size) := by show _ < _; omega
  have HPOS : Hid (0 < ts.length) := by show _ < _; omega
  have HLE : Hid (w.heap.size ≤ W0.heap.size) := by show _ ≤ _; omega
  clear hS hv hkv hB0 hbT hbK hbR hfT hi hz0
  go_enter Tryz.func116, Tryz.ntmps116
  go_upto_region 2 with first
    | (refine appT rfl (.tmp 7) (.tmp 9) rfl W0.heap.size S (fun q hq => Nat.lt_of_lt_of_le (HSS.out q hq) HLE.out) _ [] ts rfl HOE.out A ts.length cap rfl HSRC.out (by simp; omega) (by simp) ?_
       intro v1 W1 ho1 hb1
       rw [List.nil_append] at ho1
       have HB1 := hid ((blA W0 (.cells #[] 24)).trans (hb1.mono (Nat.le_refl _)))
       obtain ⟨g, n1, rfl, hg1, hg2, hcells⟩ := ho1.some_ HPOS.out
       have HO1 := hid ho1
       have HG1 := hid hg1
       have HG2 := hid hg2
       have HCL := hid hcells
       have q3 := (HBT.out.below HB1.out HT0.out).2.2.2
       have g3 := (HFT.out.below HB1.out HT0.out).2.2.2
       clear ho1 hb1 hg1 hg2 hcells m3 f3)
  have ht0 := HT0.out
  obtain ⟨X, hX⟩ : ∃ X, W1.setCell ⟨w.heap.size, 3, none⟩ (.slice (some ⟨g, 0, none⟩) ts.length n1) = X := ⟨_, rfl⟩
  rw [hX]
  have hXs : X.heap.size = W1.heap.size := by rw [← hX]; simp [World.setCell]
  have hXo : ∀ p : Addr, p.block ≠ w.heap.size → X.cell? p = W1.cell? p := fun p hp => by rw [← hX]; exact World.cell?_setCell_other _ _ _ _ (fun e => hp (by rw [← e]))
  have hXf : ∀ p : Addr, X.frozen? p = W1.frozen? p := fun p => by rw [← hX]; exact World.frozen?_setCell _ _ _ _
  have hXB : Below w.heap.size w X := by rw [← hX]; exact (HB0.out.trans (HB1.out.mono HLE.out)).setCell (Nat.le_refl _) _
  have x3 : X.cell? ⟨w.heap.size, 3, none⟩ = some (.slice (some ⟨g, 0, none⟩) ts.length n1) := by rw [← hX]; exact World.cell?_setCell_same _ _ _ q3
  have ⟨y0, y1, y2, _⟩ := HBT.out.below HB1.out HT0.out
  have x0 : X.cell? ⟨w.heap.size, 0, none⟩ = some (.int .i64 tk) := by rw [← hX]; exact (World.cell?_setCell_other _ _ _ _ (by simp)).trans y0
  have x1 : X.cell? ⟨w.heap.size, 1, none⟩ = some (.string tx) := by rw [← hX]; exact (World.cell?_setCell_other _ _ _ _ (by simp)).trans y1
  have x2 : X.cell? ⟨w.heap.size, 2, none⟩ = some (.int .i64 tc) := by rw [← hX]; exact (World.cell?_setCell_other _ _ _ _ (by simp)).trans y2
  have hgz := HZ0.out
  have hg1 := HG1.out
  have hg2 := HG2.out
  obtain ⟨k0, k1, k2, k3⟩ := (HBK.out.below HB1.out (by omega)).keep (fun o => hXo ⟨w.heap.size + 1, o, none⟩ (by simp))
  have HRX : Hid (Box4 X (w.heap.size + 1 + 1) 0 ⟨#[]⟩ 0 (.slice none 0 0)) := (HBR.out.1.below HB1.out (by omega)).keep (fun o => hXo ⟨w.heap.size + 1 + 1, o, none⟩ (by simp; omega))
  have hfr := HBR.out.2.below HB1.out (by omega)
  have hcx : ∀ j, j < 4 → (∃ u, X.cell? ⟨g, i * 4 + j, none⟩ = some u) ∧ X.frozen? ⟨g, i * 4 + j, none⟩ = false := fun j hj => by
    obtain ⟨⟨u, h1⟩, h2⟩ := HCL.out (i * 4 + j) (by have := HI.out; omega)
    exact ⟨⟨u, (hXo ⟨g, i * 4 + j, none⟩ (by show g ≠ _; omega)).trans h1⟩, (hXf _).trans h2⟩
  obtain ⟨⟨u0, s0⟩, l0⟩ := hcx 0 (by omega)
  obtain ⟨⟨u1, s1⟩, l1⟩ := hcx 1 (by omega)
  obtain ⟨⟨u2, s2⟩, l2⟩ := hcx 2 (by omega)
  obtain ⟨⟨u3, s3⟩, l3⟩ := hcx 3 (by omega)
  rw [Nat.add_zero] at s0 l0
  have HXO := hid hXo
  have HXF := hid hXf
  have HXB := hid hXB
  have HX4 : Hid (Box4 X w.heap.size tk tx tc (.slice (some ⟨g, 0, none⟩) ts.length n1)) := ⟨x0, x1, x2, x3⟩
  have HFR := hid hfr
  have HXS := hid hXs
  clear hXo hXf hXB hX hcx y0 y1 y2 q3 g3 hfr hgz hg1 hg2 ht0 hXs
  have i5 : (0 : Int) ≤ (i : Int) := by omega
  have i6 : (i : Int) < (ts.length : Int) := by have := HI.out; omega
  go_upto_region 3 with fail
  generalize hY : ((((X.setCell _ (.int .i64 kk)).setCell _ (.string kx)).setCell _ (.int .i64 kc)).setCell _ (.slice B ks.length cb)) = Y
  obtain ⟨⟨d0, d1, d2, d3⟩, hYs, hYB, hYo, hYr, hYf⟩ := zC4 s0 s1 s2 s3 _ _ _ _ hY.symm
  have hg1 := HG1.out
  have hz0 := HZ0.out
  have HKX := hid (HKV.out.keep (w' := Y) (fun q hq => (hYo q (by have : q.block < w.heap.size := HSS.out _ hq; omega)).trans (HXB.out.cell (HSS.out _ hq))) (fun _ h => h))
  have HSET : Hid (zAa zAb Y (fun q => S q ∨ q = g) (ts.set i (Tree.mk kk kx kc ks)) (.slice (some ⟨g, 0, none⟩) ts.length n1)) := OwnT.put_ HO1.out HI.out HK.out HKX.out (fun q hq => by have h9 : q.block < w.heap.size := HSS.out _ hq; exact (hYo q (by omega)).trans (HXO.out q (by omega))) d0 d1 d2 d3 (fun j hj => (hYr j hj).trans (HXO.out _ (by show g ≠ _; omega)))
  obtain ⟨z0, z1, z2, z3⟩ := HX4.out.keep (fun o => hYo ⟨w.heap.size, o, none⟩ (by show w.heap.size ≠ g; omega))
  have HRY := HRX.out.keep (fun o => hYo ⟨w.heap.size + 1 + 1, o, none⟩ (by show w.heap.size + 1 + 1 ≠ g; omega))
  have HRY' := hid HRY
  obtain ⟨r0, r1, r2, r3⟩ := HRY
  obtain ⟨p0, p1, p2, p3⟩ := HFR.out
  have hfY : ∀ o, W1.frozen? ⟨w.heap.size + 1 + 1, o, none⟩ = false → Y.frozen? ⟨w.heap.size + 1 + 1, o, none⟩ = false := fun o h => (hYf _).trans ((HXF.out _).trans h)
  replace p0 := hfY _ p0
  replace p1 := hfY _ p1
  replace p2 := hfY _ p2
  replace p3 := hfY _ p3
  have HYB := hid (hYB w.heap.size w (by omega) HXB.out)
  have hYZ : Hid (g < Y.heap.size ∧ w.heap.size < Y.heap.size) := by show _ ∧ _; have := HG2.out; have := HXS.out; omega
  clear hY hYs hYB hYo hYr hYf d0 d1 d2 d3 s0 s1 s2 s3 l0 l1 l2 l3 x0 x1 x2 x3 k0 k1 k2 k3 hfY hz0
  go_wp2_with fail
  generalize hZ : ((((Y.setCell _ (.int .i64 tk)).setCell _ (.string tx)).setCell _ (.int .i64 tc)).setCell _ (.slice (some ⟨g, 0, none⟩) ts.length n1)) = Z
  obtain ⟨⟨e0, e1, e2, e3⟩, hZs, hZB, hZo, _, _⟩ := zC4 (o := 0) HRY'.out.1 HRY'.out.2.1 HRY'.out.2.2.1 HRY'.out.2.2.2 _ _ _ _ hZ.symm
  simp only [Nat.zero_add] at e1 e2 e3
  have HZB := hid (hZB w.heap.size w (by omega) HYB.out)
  have HZO := hid hZo
  have HZS := hid hZs
  clear hZ hZs hZB hZo
  refine bodyPost_ret (v := .agg #[.int .i64 tk, .string tx, .int .i64 tc, .slice (some ⟨g, 0, none⟩) ts.length n1]) (by simp [results, Tryz.results116, go_sem, e0, e1, e2, e3]) rfl ?_
  refine ⟨_, rfl, HSET.out.keep (fun q hq => HZO.out q ?_) (fun q hq => ?_), HZB.out⟩
  · have h9 : S q.block ∨ q.block = g := hq
    have := HZ0.out
    rcases h9 with h9 | h9
    · have := HSS.out _ h9
      omega
    · omega
  · have h9 : S q ∨ q = g := hq
    have := hYZ.out
    have := HZS.out
    have := HG1.out
    have := HZ0.out
    rcases h9 with h9 | h9
    · exact .inl h9
    · exact .inr ⟨by omega, by omega⟩
theorem zHp (w:World) (A:Option Addr) (n c:Nat):Calls Tryz.prog 81 #[.slice A n c] w fun e w'=>e = .returned (.agg #[.int .i64 1,.string ⟨#[]⟩,.int .i64 0,.slice A n c])∧Below w.heap.size w w':=by
 go_enter Tryz.func81,Tryz.ntmps81
 go_wp2
 exact bodyPost_ret (v:=.agg #[.int .i64 1,.string ⟨#[]⟩,.int .i64 0,.slice A n c]) (by simp [results,Tryz.results81,go_sem]) rfl ⟨rfl,(Below.refl _ _).alloc (Nat.le_refl _) _⟩
theorem zFi (ts:List Tree) (A:Option Addr) (cap:Nat) (w:World) (hv:zAa zAb w (Lt w.heap.size) ts (.slice A ts.length cap)) (hct:zAd ts≤100000000) :
  Calls Tryz.prog 112 #[.slice A ts.length cap] w fun e w'=>e = .returned (.bool (zAf (rowT ts)))∧Below w.heap.size w w':=by
 have C1:Hid (∀ W,Below w.heap.size w W→Calls Tryz.prog 35 #[.agg #[.int .i64 1,.string ⟨#[]⟩,.int .i64 0,.slice A ts.length cap]] W fun e w'=>e = .returned (.bool (zAf (rowT ts)))∧Below W.heap.size W w') :=
  fun W hW=>zDx (rowT ts) A cap W (hv.below hW hW.size) (show (⟨#[]⟩:ByteArray).size≤maxLen from Nat.zero_le _) (by unfold rowT;rw [zAe];omega)
 clear hv hct
 go_enter Tryz.func112,Tryz.ntmps112
 go_wp2_with fail
 refine (zHp _ _ _ _).mono ?_
 rintro e w1 ⟨rfl,hb1⟩
 have HB1:=hid hb1
 clear hb1
 go_wp2_with fail
 refine (C1.out _ HB1.out).mono ?_
 rintro e w2 ⟨rfl,hb2⟩
 go_wp2_with fail
 go_ret
 exact ⟨rfl,HB1.out.trans (hb2.mono HB1.out.size)⟩
theorem OwnT.rowsN {w:World} {b:Nat} {S:Nat→Prop} {ts:List Tree} {v:Value} (h:OwnT w b S ts v):zAa zAb w (fun q=>S q∨b≤q∧q < w.heap.size) ts v:=by
 obtain ⟨cs,h1,h2⟩:=h
 exact zAa.of_own (E:=zAb) h1 (fun k hk=>.inr (h1.lt k hk)) (h2.keep (zCu _ _) (fun _ h=>.inl h))
theorem newer {w w':World} {S:Nat→Prop} {b:Nat} {l:List Tree} {v:Value} (h:zAa zAb w (fun q=>S q∨b≤q∧q < w.heap.size) l v) (hS:∀ q,S q→q < w.heap.size) (hb:Below w.heap.size w w'):zAa zAb w' (fun q=>S q∨b≤q∧q < w'.heap.size) l v :=
 h.keep (fun q hq=>hb.cell (by rcases hq with hq | hq;exact hS _ hq;exact hq.2)) (fun q hq=>by rcases hq with hq | hq;exact .inl hq;exact .inr ⟨hq.1,Nat.lt_of_lt_of_le hq.2 hb.size⟩)
def zAr (t:Tree) (i:Nat) (l:List Tree):Tree:=zCj t i (rowT l)
theorem zC2 {W X:World} (h:Below W.heap.size W X):Below W.heap.size W X.drew:=⟨h.os,h.tape,h.output,h.size,h.block⟩
theorem zC7 {w w':World} {B:Nat} (h:Below B w.drew w'):Below B w w':=⟨h.os,h.tape,h.output,h.size,h.block⟩
set_option maxHeartbeats 4000000 in
theorem zJr (t:Tree) (i:Nat) (l:List Tree) (A B:Option Addr) (cap cb:Nat) (w:World) (S:Nat→Prop) (hS:∀ q,S q→q < w.heap.size) (hi:i < t.kids.length) (hlen:t.kids.length≤1000000) (hll:l.length≤1000000) (hv:zAa zAb w S t.kids (.slice A t.kids.length cap)) (hl:zAa zAb w S l (.slice B l.length cb)) :
  Calls Tryz.prog 115 #[.agg #[.int .i64 t.kind,.string t.text,.int .i64 t.cols,.slice A t.kids.length cap],.int .i64 i,.slice B l.length cb] w (zEa S w (zAr t i l)):=by
 have CR:Hid (∀ W v,Below w.heap.size w W→zAa zAb W (fun q=>S q∨w.heap.size + 1 + 1≤q∧q < W.heap.size) l v→∀ B' c',v = .slice B' l.length c'→Calls Tryz.prog 116 #[.agg #[.int .i64 t.kind,.string t.text,.int .i64 t.cols,.slice A t.kids.length cap],.int .i64 i,.agg #[.int .i64 1,.string ⟨#[]⟩,.int .i64 0,.slice B' l.length c']] W (zEa (fun q=>S q∨w.heap.size + 1 + 1≤q∧q < W.heap.size) W (zAr t i l))):=by
  intro W v hW hr B' c' hv'
  subst hv'
  exact zEd t (rowT l) i A B' cap c' W _ (fun q hq=>by
   have hz:=hW.size
   rcases hq with hq | hq
   ·have:=hS q hq;omega
   ·exact hq.2) hi hlen ⟨by simp [rowT,Tree.kind,In64],by simp [rowT,Tree.cols,In64],Nat.zero_le _⟩ (hv.keep (fun q hq=>hW.cell (hS _ hq)) (fun q hq=>.inl hq)) hr
 have HFS:Hid (zAr t i l = zAr t i l):=rfl
 generalize zAr t i l = R at *
 obtain ⟨tk,tx,tc,ts⟩:=t
 obtain ⟨rk,rx,rc,rs⟩:=R
 simp only [Tree.kind,Tree.text,Tree.cols,Tree.kids] at *
 generalize hW0:(w.alloc (Obj.cells #[.int .i64 tk,.string tx,.int .i64 tc,.slice A ts.length cap] 24)).alloc (Obj.cells #[.int .i64 0,.string ⟨#[]⟩,.int .i64 0,.slice none 0 0] 24) = W0
 have hz0:W0.heap.size = w.heap.size + 1 + 1:=by rw [← hW0];simp
 have hB0:Below w.heap.size w W0:=by rw [← hW0];exact zAp (blA _ _) _
 have hbT:Box4 W0 w.heap.size tk tx tc (.slice A ts.length cap):=by
  rw [← hW0]
  exact (Box4.new w _ _ _ _ _).below (blA _ _) (by simp)
 have hbR:Box4 W0 (w.heap.size + 1) 0 ⟨#[]⟩ 0 (.slice none 0 0)∧zCz W0 (w.heap.size + 1):=by
  rw [← hW0]
  have h:=Box4.new (w.alloc (Obj.cells #[.int .i64 tk,.string tx,.int .i64 tc,.slice A ts.length cap] 24)) 0 ⟨#[]⟩ 0 (.slice none 0 0) 24
  have h2:=zCz.new (w.alloc (Obj.cells #[.int .i64 tk,.string tx,.int .i64 tc,.slice A ts.length cap] 24)) #[.int .i64 0,.string ⟨#[]⟩,.int .i64 0,.slice none 0 0] 24
  exact ⟨by simpa using h,by simpa using h2⟩
 have KC:Hid (∀ W,Below W0.heap.size W0 W→Box4 W w.heap.size tk tx tc (.slice A ts.length cap)∧Box4 W (w.heap.size + 1) 0 ⟨#[]⟩ 0 (.slice none 0 0)∧zCz W (w.heap.size + 1)∧Below w.heap.size w W):=fun W h=>⟨hbT.below h (by omega),hbR.1.below h (by omega),hbR.2.below h (by omega),hB0.trans (h.mono hB0.size)⟩
 have hl0:zAa zAb W0 S l (.slice B l.length cb):=hl.keep (fun q hq=>hB0.cell (hS _ hq)) (fun _ h=>h)
 have HE1:Hid (∀ W',W' = W0.alloc (.cells #[] 24)→OwnT W'.drew W0.heap.size S [] (.slice (some ⟨W0.heap.size,0,none⟩) 0 0)∧zAa zAb W'.drew S l (.slice B l.length cb)∧Below W0.heap.size W0 W'.drew):=by
  rintro W' rfl
  have hb:Below W0.heap.size W0 (W0.alloc (.cells #[] 24)).drew:=(blA _ _).drew
  exact ⟨OwnT.empty W0 S,hl0.keep (fun q hq=>hb.cell (by have:=hS _ hq;omega)) (fun _ h=>h),hb⟩
 have HZ0:=hid hz0
 have HLE:Hid (w.heap.size≤W0.heap.size):=by show _≤_;omega
 have HSS:=hid hS
 obtain ⟨m0,m1,m2,m3⟩:=hbT
 clear hS hv hl hl0 hi hlen hB0 hbR hz0
 go_enter Tryz.func115,Tryz.ntmps115
 go_wp2_with fail
 clear hW0
 go_region_held3 (fun w'=>w'.cell? ⟨w.heap.size,0,none⟩ = some (.int .i64 tk)∧w'.cell? ⟨w.heap.size,1,none⟩ = some (.string tx)∧w'.cell? ⟨w.heap.size,2,none⟩ = some (.int .i64 tc)∧w'.cell? ⟨w.heap.size,3,none⟩ = some (.slice A ts.length cap)) (go_keep) (first
  | (refine zPh (by rfl) (.tmp 9) (.tmp 10) (by rfl) W0.heap.size S (fun q hq=>Nat.lt_of_lt_of_le (HSS.out q hq) HLE.out) _ [] l (by rfl) (HE1.out _ rfl).1 _ _ _ (by rfl) (HE1.out _ rfl).2.1 (by simp;omega) (by simp) ?_;intro v1 w1 hown1 hb1;rw [List.nil_append] at hown1;have HB1:=hid ((HE1.out _ rfl).2.2.trans hb1);have HR1:Hid (zAa zAb w1 (fun q=>S q∨w.heap.size + 1 + 1≤q∧q < w1.heap.size) l v1):=by { have h:=hown1.rowsN;rw [HZ0.out] at h;exact h };have HS1:Hid (∀ q,S q→q < w1.heap.size):=fun q hq=>Nat.lt_of_lt_of_le (HSS.out q hq) (Nat.le_trans HLE.out HB1.out.size);obtain ⟨A1,n1,rfl⟩:=hown1.form;obtain ⟨⟨p0,p1,p2,p3⟩,_⟩:=KC.out w1 HB1.out;clear hown1 hb1)
  | (go_at_call 81;refine (zHp _ _ _ _).mono ?_;rintro e w2 ⟨rfl,hb2⟩;have HB2:=hid (zAq HB1.out (zC7 hb2));have HR2:Hid (zAa zAb w2 (fun q=>S q∨w.heap.size + 1 + 1≤q∧q < w2.heap.size) l (.slice A1 l.length n1)):=newer HR1.out HS1.out (zC7 hb2);obtain ⟨⟨p0,p1,p2,p3⟩,_,_,hbw2⟩:=KC.out w2 HB2.out;have HK2:=hid hbw2;clear hb2 hbw2)
  | (go_at_call 81;refine (zHp _ _ _ _).mono ?_;rintro e w2 ⟨rfl,hb2⟩;have HB2:=hid (zAq HB1.out hb2);have HR2:Hid (zAa zAb w2 (fun q=>S q∨w.heap.size + 1 + 1≤q∧q < w2.heap.size) l (.slice A1 l.length n1)):=newer HR1.out HS1.out hb2;obtain ⟨⟨p0,p1,p2,p3⟩,_,_,hbw2⟩:=KC.out w2 HB2.out;have HK2:=hid hbw2;clear hb2 hbw2)
  | (go_at_call 116;refine (CR.out _ _ HK2.out HR2.out _ _ rfl).mono ?_;intro e w3 h3;obtain ⟨v3,rfl,hr3,hb3⟩:∃ v,e = .returned (.agg #[.int .i64 rk,.string rx,.int .i64 rc,v])∧zAa zAb w3 (fun q=>(S q∨w.heap.size + 1 + 1≤q∧q < w2.heap.size)∨w2.heap.size≤q∧q < w3.heap.size) rs v∧Below w2.heap.size w2 w3:=h3;obtain ⟨A3,n3,rfl⟩:=hr3.form;have HR3:=hid hr3;have HB3:=hid (zAq HB2.out hb3);have HS3:=hid hb3;obtain ⟨⟨p0,p1,p2,p3⟩,hrb,⟨f0,f1,f2,f3⟩,hbw3⟩:=KC.out w3 HB3.out;have HRB:=hid hrb;obtain ⟨r0,r1,r2,r3⟩:=hrb;have HK3:=hid hbw3;clear hb3 hbw3 hr3))
 all_goals
  have hz2:w.heap.size + 1 < w2.heap.size:=by have:=HB2.out.size;have:=HZ0.out;omega
  have HZ2:=hid hz2
  clear hz2
  go_wp2_with fail
  generalize hZ:((((w3.setCell _ (.int .i64 rk)).setCell _ (.string rx)).setCell _ (.int .i64 rc)).setCell _ (.slice A3 rs.length n3)) = Z
  obtain ⟨⟨e0,e1,e2,e3⟩,hZs,hZB,hZo,_,_⟩:=zC4 (o:=0) HRB.out.1 HRB.out.2.1 HRB.out.2.2.1 HRB.out.2.2.2 _ _ _ _ hZ.symm
  simp only [Nat.zero_add] at e1 e2 e3
  have HZB:=hid (hZB w.heap.size w (by omega) HK3.out)
  have HZO:=hid hZo
  have HZS:=hid hZs
  clear hZ hZs hZB hZo
  refine bodyPost_ret (v:=.agg #[.int .i64 rk,.string rx,.int .i64 rc,.slice A3 rs.length n3]) (by simp [results,Tryz.results115,go_sem,e0,e1,e2,e3]) rfl ?_
  have HS3:=HS3.out.size
  have HZ2:=HZ2.out
  have HZS:=HZS.out
  refine ⟨_,rfl,HR3.out.keep (fun q hq=>HZO.out q ?_) (fun q hq=>?_),HZB.out⟩
  ·rcases hq with (hq | hq) | hq
   ·have:=HSS.out _ hq;omega
   ·omega
   ·omega
  ·rcases hq with (hq | hq) | hq
   ·exact .inl hq
   ·exact .inr ⟨by omega,by omega⟩
   ·exact .inr ⟨by omega,by omega⟩
def zAv (l:List Tree) (a b:Nat) (by_:List Tree):List Tree:=l.take a ++ by_ ++ l.drop b
def zEb (S:Nat→Prop) (w:World) (L:List Tree) (e:Ending) (w':World):Prop :=
 ∃ v,e = .returned v∧zAa zAb w' (fun q=>S q∨w.heap.size≤q∧q < w'.heap.size) L v∧Below w.heap.size w w'
set_option maxHeartbeats 4000000 in
theorem zEk (l bs : List Tree) (x y : Int) (a b : Nat) (A B : Option Addr) (cap cb : Nat) (w : World) (S : Nat → Prop) (hS : ∀ q, S q → q < w.heap.size) (hx : x = a) (hy : y = b) (ha : a ≤ l.length) (hb : b ≤ l.length) (hll : l.length ≤ 1000000) (hlb : bs.length ≤ 1000000) (hv : zAa zAb w S l (.slice A l.length cap)) (hl : zAa zAb w S bs (.slice B bs.length cb)) :
    Calls Tryz.prog 114 #[.slice A l.length cap, .int .i64 x, .int .i64 y, .slice B bs.length cb] w (zEb S w (zAv l a b bs)) := by
  have hn1 : l.length ≤ cap := by obtain ⟨_, _, _, hq, h1, _⟩ := hv; cases hq; exact h1
  obtain ⟨A1, hsl1, hcut1⟩ := zL3 zAb Tryz.underlying22 zCp A l.length cap x a hx ha hn1
  obtain ⟨A2, hsl2, hcut2⟩ := zNc zAb Tryz.underlying22 zCp A l.length cap y b hy hb
  have HSS := hid hS
  have HC1 := hid (hcut1 _ _ _ hv)
  have HC2 := hid (hcut2 _ _ _ hv)
  have HBS := hid hl
  have HOE := hid (OwnT.empty w S)
  have HL : Hid (zAv l a b bs = l.take a ++ bs ++ l.drop b) := rfl
  have hk : ∀ {ts : List Tree} {v : Value} {W : World}, zAa zAb w S ts v → Below w.heap.size w W → zAa zAb W S ts v := fun h hW => h.keep (fun q hq => hW.cell (hS _ hq)) (fun _ h => h)
  have HKE : Hid (∀ (ts : List Tree) (v : Value) (W : World), zAa zAb w S ts v → Below w.heap.size w W → zAa zAb W S ts v) := fun _ _ _ h hW => hk h hW
  have HLA : Hid (a ≤ l.length ∧ b ≤ l.length ∧ l.length ≤ 1000000 ∧ bs.length ≤ 1000000) := ⟨ha, hb, hll, hlb⟩
  generalize zAv l a b bs = L at *
  clear hv hl hS hcut1 hcut2 hx hy ha hb hll hlb hk
  go_enter Tryz.func114, Tryz.ntmps114
  go_wp2_with first
    | (refine appT rfl (.tmp 10) (.tmp 13) rfl w.heap.size S (fun q hq => HSS.out q hq) _ [] (l.take a) rfl HOE.out _ _ _ rfl (HKE.out _ _ _ HC1.out (blA _ _)) (by have := HLA.out; simp; omega) (by simp) ?_
       intro v1 w1 ho1 hb1
       rw [List.nil_append] at ho1
       have HO1 := hid ho1
       have HB1 := hid ((blA w (.cells #[] 24)).trans hb1)
       clear ho1 hb1)
    | (refine appT rfl (.tmp 15) (.tmp 16) rfl w.heap.size S (fun q hq => HSS.out q hq) _ (l.take a) bs rfl HO1.out _ _ _ rfl (HKE.out _ _ _ HBS.out HB1.out) (by have := HLA.out; simp; omega) HB1.out.size ?_
       intro v2 w2 ho2 hb2
       have HO2 := hid ho2
       have HB2 := hid (HB1.out.trans hb2)
       clear ho2 hb2)
    | (refine appT rfl (.tmp 18) (.tmp 21) rfl w.heap.size S (fun q hq => HSS.out q hq) _ (l.take a ++ bs) (l.drop b) rfl HO2.out _ _ _ rfl (HKE.out _ _ _ HC2.out HB2.out) (by have := HLA.out; simp; omega) HB2.out.size ?_
       intro v3 w3 ho3 hb3
       have HO3 := hid ho3
       have HB3 := hid (HB2.out.trans hb3)
       clear ho3 hb3)
  go_ret
  exact ⟨_, rfl, by rw [HL.out]; exact HO3.out.rowsN, HB3.out⟩
end Go.Proofs.YtbjcioknfjofkaaGreat
