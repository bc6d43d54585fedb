/- Texts put together. -/
import Derived.Test.YthpngeboknmllaaQ380b24acad
import Derived.Lib.Strings
set_option linter.unusedVariables false
set_option linter.unusedSimpArgs false
namespace Go.Proofs.Ythpngeboknmllaa
open Go.RowKit
theorem toList_inj {s t:ByteArray}:s.toList = t.toList ↔ s = t:=by
 constructor
 ·intro h
  rw [Lib.toList_data,Lib.toList_data] at h
  exact ByteArray.ext (Array.toList_inj.1 h)
 ·intro h;rw [h]
mutual
def eqS:Tree→Tree→Bool
 | .mk k s c ts,.mk k' s' c' us=>k == k' && (s.toList == s'.toList && (c == c' && (ts.length == us.length && eqsS ts us)))
def eqsS:List Tree→List Tree→Bool
 | t :: ts,u :: us=>eqS t u && eqsS ts us
 | _,_=>true
end
theorem eqsS_drop {ts us:List Tree} {i:Nat} (h:i < ts.length) (h':i < us.length):eqsS (ts.drop i) (us.drop i) = (eqS ts[i] us[i] && eqsS (ts.drop (i + 1)) (us.drop (i + 1))):=by
 rw [List.drop_eq_getElem_cons h,List.drop_eq_getElem_cons h',eqsS]
mutual
theorem eqS_iff : (t u : Tree) → (eqS t u = true ↔ t = u)
  | .mk k s c ts, .mk k' s' c' us => by
    unfold eqS
    have h := eqsS_iff ts us
    simp only [Bool.and_eq_true, beq_iff_eq, Tree.mk.injEq, h, toList_inj]
theorem eqsS_iff : (ts us : List Tree) → ((ts.length = us.length ∧ eqsS ts us = true) ↔ ts = us)
  | [], [] => by simp [eqsS]
  | [], u :: us => by simp
  | t :: ts, [] => by simp
  | t :: ts, u :: us => by
    have h1 := eqS_iff t u
    have h2 := eqsS_iff ts us
    simp only [eqsS, List.length_cons, Bool.and_eq_true, List.cons.injEq, Nat.add_right_cancel_iff, ← h2, h1]
    constructor <;> (rintro ⟨a, b, c⟩; exact ⟨b, a, c⟩)
end
set_option maxHeartbeats 1000000 in
theorem same_of (xs ys:List Tree) (w:World) (A A':Option Addr) (cap cap':Nat) (hv:SliceR treeE w (Lt w.heap.size) xs (.slice A xs.length cap)) (hu:SliceR treeE w (Lt w.heap.size) ys (.slice A' ys.length cap'))
  (hE:∀ t ∈ xs,∀ (u:Tree) (W:World) (v1 v2:Value),SliceR treeE W (Lt W.heap.size) t.kids v1→SliceR treeE W (Lt W.heap.size) u.kids v2 →
   Calls Try.prog 10 #[.agg #[.int .i64 t.kind,.string t.text,.int .i64 t.cols,v1],.agg #[.int .i64 u.kind,.string u.text,.int .i64 u.cols,v2]] W fun e w'=>e = .returned (.bool (eqS t u))∧Below W.heap.size W w') :
  Calls Try.prog 19 #[.slice A xs.length cap,.slice A' ys.length cap'] w fun e w'=>e = .returned (.bool (xs.length == ys.length && eqsS xs ys))∧Below w.heap.size w w':=by
 obtain ⟨_,_,rs,hq,hcap,hmax,hrd,hls⟩:=hv
 cases hq
 obtain ⟨_,_,rs',hq,hcap',hmax',hrd',hls'⟩:=hu
 cases hq
 unfold maxLen at hmax hmax'
 have H:Hid (Reads w (Lt w.heap.size) A rs∧ListR treeE w (Lt w.heap.size) xs rs):=⟨hrd,hls⟩
 have H':Hid (Reads w (Lt w.heap.size) A' rs'∧ListR treeE w (Lt w.heap.size) ys rs'):=⟨hrd',hls'⟩
 clear hrd hls hrd' hls'
 have l0:xs.length≤9223372036854775807:=by omega
 have l1:ys.length≤9223372036854775807:=by omega
 by_cases hl:xs.length = ys.length
 ·have b0:((xs.length:Int) != (ys.length:Int)) = false:=by simp [hl]
  have b1:((xs.length:Int) == (ys.length:Int)) = true:=by simp [hl]
  have b2:decide ((xs.length:Int) = (ys.length:Int)) = true:=by simp [hl]
  have HF:Hid ((xs.length == ys.length && eqsS xs ys) = eqsS xs ys):=by show _ = _;simp [hl]
  rw [HF.out]
  clear HF
  have HL:=hid hl
  have hE':=hid hE
  clear hE hl
  go_enter Try.func19,Try.ntmps19
  go_wp2_with fail
  go_loopw [5] (fun i wr=>Below w.heap.size w wr∧∃ (k:Nat),k≤xs.length∧i = .int .i64 k∧eqsS (xs.drop k) (ys.drop k) = eqsS xs ys) (fun i _=>xs.length - (intOf i).toNat)
  case atStart=>exact ⟨Below.refl _ _,0,Nat.zero_le _,rfl,rfl⟩
  case round =>
   obtain ⟨hb,k,hk,rfl,hrest⟩:=hrel
   have HR:=hid hrest
   have HB:=hid hb
   clear hrest
   by_cases hlt:k < xs.length
   ·have hlt':k < ys.length:=by have:=HL.out;omega
    obtain ⟨g,o,B,bc,bs,rfl,hg,c0,c1,c2,c3,_,_,_,hc5,hc6,hrd,hls⟩:=trees_at (H.out.1.keep (Same.of_below hb (Nat.le_refl _)) (Lt.mono hb.size)) (H.out.2.keep (Same.of_below hb (Nat.le_refl _)) (Lt.mono hb.size)) hlt
    obtain ⟨g',o',B',bc',bs',rfl,hg',d0,d1,d2,d3,_,_,_,hd5,hd6,hrd',hls'⟩:=trees_at (H'.out.1.keep (Same.of_below hb (Nat.le_refl _)) (Lt.mono hb.size)) (H'.out.2.keep (Same.of_below hb (Nat.le_refl _)) (Lt.mono hb.size)) hlt'
    have hg1:g < wr.heap.size:=hg
    have hg2:g' < wr.heap.size:=hg'
    have hmem:xs[k] ∈ xs:=List.getElem_mem hlt
    have HT:=hid (eqsS_drop hlt hlt')
    have HV:Hid (SliceR treeE wr (Lt wr.heap.size) xs[k].kids (.slice B xs[k].kids.length bc)):=⟨B,bc,bs,rfl,hc5,hc6,hrd,hls⟩
    have HV':Hid (SliceR treeE wr (Lt wr.heap.size) ys[k].kids (.slice B' ys[k].kids.length bc')):=⟨B',bc',bs',rfl,hd5,hd6,hrd',hls'⟩
    have HC:Hid (Calls Try.prog 10 #[.agg #[.int .i64 xs[k].kind,.string xs[k].text,.int .i64 xs[k].cols,.slice B xs[k].kids.length bc],.agg #[.int .i64 ys[k].kind,.string ys[k].text,.int .i64 ys[k].cols,.slice B' ys[k].kids.length bc']] wr.drew fun e w'=>e = .returned (.bool (eqS xs[k] ys[k]))∧Below wr.drew.heap.size wr.drew w') :=
     hE'.out _ hmem ys[k] _ _ _ (slice_drew HV.out) (slice_drew HV'.out)
    have KW:Hid (∀ W,Below wr.heap.size wr W→Below w.heap.size w W ∧
      (W.cell? ⟨g,o + k * 4,none⟩ = some (.int .i64 xs[k].kind)∧W.cell? ⟨g,o + k * 4 + 1,none⟩ = some (.string xs[k].text)∧W.cell? ⟨g,o + k * 4 + 2,none⟩ = some (.int .i64 xs[k].cols)∧W.cell? ⟨g,o + k * 4 + 3,none⟩ = some (.slice B xs[k].kids.length bc)) ∧
      (W.cell? ⟨g',o' + k * 4,none⟩ = some (.int .i64 ys[k].kind)∧W.cell? ⟨g',o' + k * 4 + 1,none⟩ = some (.string ys[k].text)∧W.cell? ⟨g',o' + k * 4 + 2,none⟩ = some (.int .i64 ys[k].cols)∧W.cell? ⟨g',o' + k * 4 + 3,none⟩ = some (.slice B' ys[k].kids.length bc'))):=by
     intro W hW
     have h:=(bcell hW).1
     exact ⟨HB.out.trans (hW.mono HB.out.size),⟨(h _ _ hg1).trans c0,(h _ _ hg1).trans c1,(h _ _ hg1).trans c2,(h _ _ hg1).trans c3⟩,(h _ _ hg2).trans d0,(h _ _ hg2).trans d1,(h _ _ hg2).trans d2,(h _ _ hg2).trans d3⟩
    have i0:(k:Int) < (xs.length:Int):=by omega
    clear hrd hls hrd' hls' hb hc5 hc6 hd5 hd6 hE' b0 b1 b2
    generalize hb3:eqS xs[k] ys[k] = b3 at *
    clear hb3
    cases b3
    ·have HF:Hid (eqsS xs ys = false):=by show _ = _;rw [← HR.out,HT.out];rfl
     go_wp2_with fail
     go_region_held3 (fun w'=>w'.cell? ⟨g,o + k * 4,none⟩ = some (.int .i64 xs[k].kind)∧w'.cell? ⟨g,o + k * 4 + 1,none⟩ = some (.string xs[k].text)∧w'.cell? ⟨g,o + k * 4 + 2,none⟩ = some (.int .i64 xs[k].cols)∧w'.cell? ⟨g,o + k * 4 + 3,none⟩ = some (.slice B xs[k].kids.length bc)∧w'.cell? ⟨g',o' + k * 4,none⟩ = some (.int .i64 ys[k].kind)∧w'.cell? ⟨g',o' + k * 4 + 1,none⟩ = some (.string ys[k].text)∧w'.cell? ⟨g',o' + k * 4 + 2,none⟩ = some (.int .i64 ys[k].cols)∧w'.cell? ⟨g',o' + k * 4 + 3,none⟩ = some (.slice B' ys[k].kids.length bc')) (go_keep) (first
      | (go_at_call 10;refine HC.out.mono ?_;rintro e w3 ⟨rfl,hb3⟩;obtain ⟨p0,⟨p1,p2,p3,p4⟩,p5,p6,p7,p8⟩:=KW.out w3 (below_drew_of hb3);have HP:=hid p0;clear hb3 p0))
     go_wp2_with fail
     go_ret
     exact ⟨by rw [HF.out];rfl,HP.out⟩
    ·have HF:Hid (eqsS (xs.drop (k + 1)) (ys.drop (k + 1)) = eqsS xs ys):=by show _ = _;rw [← HR.out,HT.out];rfl
     go_wp2_with fail
     go_region_held3 (fun w'=>w'.cell? ⟨g,o + k * 4,none⟩ = some (.int .i64 xs[k].kind)∧w'.cell? ⟨g,o + k * 4 + 1,none⟩ = some (.string xs[k].text)∧w'.cell? ⟨g,o + k * 4 + 2,none⟩ = some (.int .i64 xs[k].cols)∧w'.cell? ⟨g,o + k * 4 + 3,none⟩ = some (.slice B xs[k].kids.length bc)∧w'.cell? ⟨g',o' + k * 4,none⟩ = some (.int .i64 ys[k].kind)∧w'.cell? ⟨g',o' + k * 4 + 1,none⟩ = some (.string ys[k].text)∧w'.cell? ⟨g',o' + k * 4 + 2,none⟩ = some (.int .i64 ys[k].cols)∧w'.cell? ⟨g',o' + k * 4 + 3,none⟩ = some (.slice B' ys[k].kids.length bc')) (go_keep) (first
      | (go_at_call 10;refine HC.out.mono ?_;rintro e w3 ⟨rfl,hb3⟩;obtain ⟨p0,⟨p1,p2,p3,p4⟩,p5,p6,p7,p8⟩:=KW.out w3 (below_drew_of hb3);have HP:=hid p0;clear hb3 p0))
     go_wp2_with fail
     go_roundw
     case rel=>exact ⟨HP.out,k + 1,by omega,by go_num,HF.out⟩
     case measure=>simp [intOf];omega
   ·have HF:Hid (eqsS xs ys = true):=by show _ = _;rw [← HR.out,List.drop_of_length_le (by omega),eqsS];simp
    clear hb
    go_wp2_with fail
    go_ret
    exact ⟨by rw [HF.out];rfl,HB.out⟩
 ·have b0:((xs.length:Int) != (ys.length:Int)) = true:=by simp;omega
  have b1:((xs.length:Int) == (ys.length:Int)) = false:=by simp;omega
  have b2:decide ((xs.length:Int) = (ys.length:Int)) = false:=by simp;omega
  have HF:Hid ((xs.length == ys.length && eqsS xs ys) = false):=by show _ = _;simp [hl]
  clear hE
  go_enter Try.func19,Try.ntmps19
  go_wp2_with fail
  go_ret
  exact ⟨by rw [HF.out];rfl,Below.refl _ _⟩
set_option maxHeartbeats 1000000 in
theorem equal_any (t:Tree):∀ (u:Tree) (w:World) (a b:Value) (_:SliceR treeE w (Lt w.heap.size) t.kids a) (_:SliceR treeE w (Lt w.heap.size) u.kids b),
  Calls Try.prog 10 #[.agg #[.int .i64 t.kind,.string t.text,.int .i64 t.cols,a],.agg #[.int .i64 u.kind,.string u.text,.int .i64 u.cols,b]] w fun e w'=>e = .returned (.bool (eqS t u))∧Below w.heap.size w w':=by
 induction t using Tree.ind with
 | h t ih =>
 obtain ⟨tk,tx,tc,ts⟩:=t
 intro u w a b ha hb
 obtain ⟨uk,ux,uc,us⟩:=u
 simp only [Tree.kind,Tree.text,Tree.cols,Tree.kids] at *
 have HA:=hid ha
 have HB:=hid hb
 obtain ⟨A,cap,_,rfl,_,_,_,_⟩:=ha
 obtain ⟨A',cap',_,rfl,_,_,_,_⟩:=hb
 rename_i h1 h2 h3 h4 h5 h6 h7 h8
 clear h1 h2 h3 h4 h5 h6 h7 h8
 have HC:Hid (∀ W,Below w.heap.size w W→Calls Try.prog 19 #[.slice A ts.length cap,.slice A' us.length cap'] W fun e w'=>e = .returned (.bool (ts.length == us.length && eqsS ts us))∧Below W.heap.size W w') :=
  fun W hW=>same_of ts us W A A' cap cap' (HA.out.below hW hW.size) (HB.out.below hW hW.size) ih
 have HE:Hid (eqS (.mk tk tx tc ts) (.mk uk ux uc us) = (tk == uk && (tx.toList == ux.toList && (tc == uc && (ts.length == us.length && eqsS ts us))))):=by show _ = _;rw [eqS]
 rw [HE.out]
 clear HE ih HA HB
 have HW:Hid (Below w.heap.size w ((w.alloc (Obj.cells #[Value.int IntKind.i64 tk,Value.string tx,Value.int IntKind.i64 tc,.slice A ts.length cap] 31)).alloc
   (Obj.cells #[Value.int IntKind.i64 uk,Value.string ux,Value.int IntKind.i64 uc,.slice A' us.length cap'] 31))):=((Below.refl _ _).alloc (Nat.le_refl _) _).alloc (by simp) _
 generalize hq:(ts.length == us.length && eqsS ts us) = b at *
 clear hq
 generalize hq1:(tk == uk) = b1 at *
 generalize hq2:(tx.toList == ux.toList) = b2 at *
 generalize hq3:(tc == uc) = b3 at *
 have hd1:decide (tk = uk) = b1:=by rw [← hq1];simp [Bool.beq_eq_decide_eq]
 have hd3:decide (tc = uc) = b3:=by rw [← hq3];simp [Bool.beq_eq_decide_eq]
 cases b1
 ·go_enter Try.func10,Try.ntmps10
  go_wp2_with fail
  go_ret
  exact ⟨by rfl,HW.out⟩
 cases b2
 ·go_enter Try.func10,Try.ntmps10
  go_wp2_with fail
  go_ret
  exact ⟨by rfl,HW.out⟩
 cases b3
 ·go_enter Try.func10,Try.ntmps10
  go_wp2_with fail
  go_ret
  exact ⟨by rfl,HW.out⟩
 go_enter Try.func10,Try.ntmps10
 go_wp2_with fail
 refine (HC.out _ HW.out).mono ?_
 rintro e w3 ⟨rfl,hb3⟩
 have HP:=hid (HW.out.trans (hb3.mono HW.out.size))
 clear hb3 HW
 go_wp2_with fail
 go_ret
 exact ⟨by rfl,HP.out⟩
end Go.Proofs.Ythpngeboknmllaa
