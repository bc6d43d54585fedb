/- Texts put together. -/
import Derived.Test.YtbjcioknfjofkaaGreatMComposeReinsert1
import Derived.Test.YtbjcioknfjofkaaGreatMComposeReinsert2
import Derived.Test.YtbjcioknfjofkaaGreatMComposeReinsert3
import Derived.Test.YtbjcioknfjofkaaGreatMComposeReinsert4
import Derived.Deep.RegionHeld3
import Derived.Lib.Strings
set_option linter.unusedVariables false
set_option linter.unusedSimpArgs false
set_option maxRecDepth 100000
namespace Go.Proofs.YtbjcioknfjofkaaGreat
open Go.RowKit
theorem nodeInfo:(Tryz.prog.info? 24).map (fun i=>(i.zero,i.size,i.bytes)) = some (some (.agg #[.int .i64 0,.string ⟨#[]⟩,.int .i64 0,.slice none 0 0]),4,56):=by kernel_rfl
def OwnT (w:World) (b:Nat) (S:Nat→Prop) (ts:List Tree) (v:Value):Prop:=∃ cs,w.ownsRow b 24 4 v ts.length cs∧ListR treeE w S ts cs
theorem OwnT.rows {w:World} {b:Nat} {S:Nat→Prop} {ts:List Tree} {v:Value} (h:OwnT w b S ts v) (hB:∀ k,S k→k < w.heap.size):SliceR treeE w (Lt w.heap.size) ts v:=by
 obtain ⟨cs,h1,h2⟩:=h
 exact SliceR.of_own (E:=treeE) h1 (fun k hk=>(h1.lt k hk).2) (h2.keep (sameRefl _ _) hB)
theorem OwnT.empty (w:World) (S:Nat→Prop):OwnT (w.alloc (.cells #[] 24)) w.heap.size S [] (.slice (some ⟨w.heap.size,0,none⟩) 0 0) :=
 ⟨[],World.ownsRow_made (base:=w.heap.size) (e:=24) (size:=4) w #[] 0 (Nat.le_refl _) (Nat.zero_le _) rfl,rfl⟩
theorem OwnT.below {w w':World} {b:Nat} {S:Nat→Prop} {ts:List Tree} {v:Value} (h:OwnT w b S ts v) (hB:∀ k,S k→k < w.heap.size) (hb:Below w.heap.size w w'):OwnT w' b S ts v:=by
 obtain ⟨cs,h1,h2⟩:=h
 exact ⟨cs,owns_below _ h1 hb,h2.keep (fun p hp=>hb.cell (hB _ hp)) (fun _ h=>h)⟩
theorem OwnT.form {w:World} {b:Nat} {S:Nat→Prop} {ts:List Tree} {v:Value} (h:OwnT w b S ts v):∃ A c,v = .slice A ts.length c:=by
 obtain ⟨cs,⟨_,h1⟩,_⟩:=h
 rcases h1 with ⟨rfl,h0⟩ | ⟨g,cap,cur,rfl,_⟩
 ·exact ⟨none,0,by rw [h0]⟩
 ·exact ⟨_,_,rfl⟩
theorem OwnT.some_ {w:World} {b:Nat} {S:Nat→Prop} {ts:List Tree} {v:Value} (h:OwnT w b S ts v) (h0:0 < ts.length):∃ g c,v = .slice (some ⟨g,0,none⟩) ts.length c∧b≤g∧g < w.heap.size∧∀ j,j < ts.length * 4→(∃ u,w.cell? ⟨g,j,none⟩ = some u)∧w.frozen? ⟨g,j,none⟩ = false:=by
 obtain ⟨cs,⟨hl,h1⟩,_⟩:=h
 rcases h1 with ⟨rfl,h1⟩ | ⟨g,cap,cur,rfl,hg,hh,hn,hm,hc,hx⟩
 ·omega
 ·refine ⟨g,cap,rfl,hg,(Array.getElem?_eq_some_iff.1 hh).1,fun j hj=>⟨⟨cur[j]'(by rw [hc];have:ts.length * 4≤cap * 4:=Nat.mul_le_mul_right _ hn;omega),?_⟩,?_⟩⟩
  ·rw [cell_of_row w g j cur _ (0,0) hh]
   exact Array.getElem?_eq_getElem _
  ·simp [World.frozen?,hh]
section
variable {w:World} {b:Nat} {S:Nat→Prop} {xss yss:List Tree} {v:Value}
theorem ownT_grown {w':World} {v':Value} {cs rs:List Value} (hBb:∀ k,S k→k < b) (h2:ListR treeE w S xss cs) (hls:ListR treeE w S yss rs)
  (h3:w'.ownsRow b 24 4 v' (xss.length + yss.length) (cs ++ rs)) (hb:Below b w w'):OwnT w' b S (xss ++ yss) v' :=
 ⟨cs ++ rs,by rw [List.length_append];exact h3,(h2.append hls).keep (fun p hp=>hb.cell (hBb _ hp)) (fun _ h=>h)⟩
theorem appT {ops:Array Oper} {rest:List Oper} {o:Oper} {a:Act} {Q:Exit→Act→World→Prop} (hgd:o.guard = none) (s x:Operand)
  (ho:o.op = .call { callee:=.builtin .append,args:=#[s,x],argTypes:=#[22,22] })
  (b:Nat) (S:Nat→Prop) (hBb:∀ k,S k→k < b) (v:Value) (xss yss:List Tree) (hs:a.eval s = v) (hown:OwnT w b S xss v) (A:Option Addr) (m c:Nat) (hx:a.eval x = .slice A m c) (hr:SliceR treeE w S yss (.slice A m c))
  (hbound:xss.length + yss.length≤1000000000) (hb:b≤w.heap.size)
  (h:∀ v' w',OwnT w' b S (xss ++ yss) v'→Below b w w'→wpList Tryz.prog ops Q rest (a.put o.dst v') w'):wpList Tryz.prog ops Q (o :: rest) a w:=by
 obtain ⟨i0,hi0,hz0,hz1,hz2⟩:=info_parts nodeInfo
 obtain ⟨A',cap',rs,e,h1,h2,hrd,hls⟩:=hr
 injection e with e1 e2 e3
 subst e1 e2 e3
 obtain ⟨cs,ho1,ho2⟩:=hown
 have hl:=hls.len
 refine wpList_append_any w hgd s x 22 ho b 24 i0 _ 4 56 Tryz.underlying22 hi0 hz0 hz1 hz2 rfl (by omega) v _ _ hs ho1 _ A _ c rs hx hl hrd hls.one (by simp only [maxLen];omega) (by omega) hb ?_
 intro v' w' h3 h4 h5
 have hbb:=below_of_grown _ ho1 h4 hb
 exact h v' w' (ownT_grown hBb ho2 hls h3 hbb) hbb
end
theorem fourAt {w:World} {b o:Nat} {x0 x1 x2 x3:Value} (d0:w.cell? ⟨b,o,none⟩ = some x0) (d1:w.cell? ⟨b,o + 1,none⟩ = some x1) (d2:w.cell? ⟨b,o + 2,none⟩ = some x2) (d3:w.cell? ⟨b,o + 3,none⟩ = some x3) (y0 y1 y2 y3:Value) {W:World}
  (hW:W = (((w.setCell ⟨b,o,none⟩ y0).setCell ⟨b,o + 1,none⟩ y1).setCell ⟨b,o + 2,none⟩ y2).setCell ⟨b,o + 3,none⟩ y3) :
  (W.cell? ⟨b,o,none⟩ = some y0∧W.cell? ⟨b,o + 1,none⟩ = some y1∧W.cell? ⟨b,o + 2,none⟩ = some y2∧W.cell? ⟨b,o + 3,none⟩ = some y3)∧W.heap.size = w.heap.size∧(∀ B a,B≤b→Below B a w→Below B a W) ∧
  (∀ p:Addr,p.block≠b→W.cell? p = w.cell? p)∧(∀ j,j < o∨o + 4≤j→W.cell? ⟨b,j,none⟩ = w.cell? ⟨b,j,none⟩)∧(∀ p:Addr,W.frozen? p = w.frozen? p):=by
 have ne:∀ (i j:Nat),i≠j→(⟨b,i,none⟩:Addr)≠⟨b,j,none⟩:=fun i j h e=>h (by injection e)
 have f:∀ (p:Addr) (j:Nat),p.block≠b→(⟨b,j,none⟩:Addr)≠p:=fun p j h e=>h (by rw [← e])
 subst hW
 refine ⟨⟨?_,?_,?_,?_⟩,by simp [World.setCell],fun B a hB h=>(((h.setCell hB _).setCell hB _).setCell hB _).setCell hB _,fun p hp=>?_,fun j hj=>?_,fun p=>?_⟩
 ·rw [World.cell?_setCell_other (h:=ne _ _ (by omega)),World.cell?_setCell_other (h:=ne _ _ (by omega)),World.cell?_setCell_other (h:=ne _ _ (by omega)),World.cell?_setCell_same (h:=d0)]
 ·rw [World.cell?_setCell_other (h:=ne _ _ (by omega)),World.cell?_setCell_other (h:=ne _ _ (by omega))]
  exact World.cell?_setCell_same _ _ _ (by rw [World.cell?_setCell_other (h:=ne _ _ (by omega))];exact d1)
 ·rw [World.cell?_setCell_other (h:=ne _ _ (by omega))]
  exact World.cell?_setCell_same _ _ _ (by rw [World.cell?_setCell_other (h:=ne _ _ (by omega)),World.cell?_setCell_other (h:=ne _ _ (by omega))];exact d2)
 ·exact World.cell?_setCell_same _ _ _ (by rw [World.cell?_setCell_other (h:=ne _ _ (by omega)),World.cell?_setCell_other (h:=ne _ _ (by omega)),World.cell?_setCell_other (h:=ne _ _ (by omega))];exact d3)
 ·rw [World.cell?_setCell_other (h:=f p _ hp),World.cell?_setCell_other (h:=f p _ hp),World.cell?_setCell_other (h:=f p _ hp),World.cell?_setCell_other (h:=f p _ hp)]
 ·rw [World.cell?_setCell_other (h:=ne _ _ (by omega)),World.cell?_setCell_other (h:=ne _ _ (by omega)),World.cell?_setCell_other (h:=ne _ _ (by omega)),World.cell?_setCell_other (h:=ne _ _ (by omega))]
 ·rw [World.frozen?_setCell,World.frozen?_setCell,World.frozen?_setCell,World.frozen?_setCell]
mutual
def formS:Tree→Bool
 | .mk k s c ts=>textS k s && kidsS k c ts.length && formsS k ts
def formsS (k:Int):List Tree→Bool
 | []=>true
 | .mk k' s' c' ts' :: ts=>!((k' == 1) == (k == 1)) && (textS k' s' && kidsS k' c' ts'.length && formsS k' ts') && formsS k ts
end
theorem formsS_cons (k:Int) (t:Tree) (ts:List Tree):formsS k (t :: ts) = (!((t.kind == 1) == (k == 1)) && formS t && formsS k ts):=by
 obtain ⟨k',s',c',ts'⟩:=t
 rw [formsS,formS];rfl
theorem formsS_drop (k:Int) {ts:List Tree} {i:Nat} (h:i < ts.length):formsS k (ts.drop i) = (!((ts[i].kind == 1) == (k == 1)) && formS ts[i] && formsS k (ts.drop (i + 1))):=by
 rw [List.drop_eq_getElem_cons h,formsS_cons]
theorem below_drew_of {w w':World} {B:Nat} (h:Below B w.drew w'):Below B w w':=⟨h.os,h.tape,h.output,h.size,h.block⟩
theorem slice_drew {α:Type} {E:Enc α} {w:World} {xs:List α} {v:Value} (h:SliceR E w (Lt w.heap.size) xs v):SliceR E w.drew (Lt w.drew.heap.size) xs v:=h.keep (fun _ _=>rfl) (fun _ h=>h)
set_option maxHeartbeats 2000000 in
theorem form_any (t : Tree) : ∀ (w : World) (v : Value) (_ : SliceR treeE w (Lt w.heap.size) t.kids v) (_ : t.text.size ≤ maxLen),
    Calls Tryz.prog 65 #[.agg #[.int .i64 t.kind, .string t.text, .int .i64 t.cols, v]] w fun e w' => e = .returned (.bool (formS t)) ∧ Below w.heap.size w w' := by
  induction t using Tree.ind with
  | h t ih =>
  obtain ⟨tk, tx, tc, ts⟩ := t
  intro w v hv htx
  simp only [Tree.kind, Tree.text, Tree.cols, Tree.kids] at *
  obtain ⟨A, cap, rs, rfl, hcap, hmax, hrd, hls⟩ := hv
  have HTX : Hid (∀ W, Calls Tryz.prog 101 #[.agg #[.int .i64 tk, .string tx, .int .i64 tc, .slice A ts.length cap]] W fun e w' => e = .returned (.bool (textS tk tx)) ∧ Below W.heap.size W w') := fun W => text_any tk tc tx A ts.length cap W htx
  have HKI : Hid (∀ W, Calls Tryz.prog 102 #[.agg #[.int .i64 tk, .string tx, .int .i64 tc, .slice A ts.length cap]] W fun e w' => e = .returned (.bool (kidsS tk tc ts.length)) ∧ Below W.heap.size W w') := fun W => kids_any tk tc tx A ts.length cap W (by omega)
  unfold maxLen at hmax
  have hlen : ts.length ≤ 9223372036854775807 := by omega
  have H : Hid (Reads w (Lt w.heap.size) A rs ∧ ListR treeE w (Lt w.heap.size) ts rs) := ⟨hrd, hls⟩
  have HC : Hid (formS (.mk tk tx tc ts) = (textS tk tx && kidsS tk tc ts.length && formsS tk ts)) := by show _ = _; rw [formS]
  generalize textS tk tx = b1 at *
  generalize kidsS tk tc ts.length = b2 at *
  have HB0 : Hid (Below w.heap.size w (w.alloc (Obj.cells #[.int .i64 tk, .string tx, .int .i64 tc, .slice A ts.length cap] 24))) := (Below.refl _ _).alloc (Nat.le_refl _) _
  have KB : Hid (∀ W, Below (w.alloc (Obj.cells #[.int .i64 tk, .string tx, .int .i64 tc, .slice A ts.length cap] 24)).heap.size (w.alloc (Obj.cells #[.int .i64 tk, .string tx, .int .i64 tc, .slice A ts.length cap] 24)) W →
      (W.cell? ⟨w.heap.size, 0, none⟩ = some (.int .i64 tk) ∧ W.cell? ⟨w.heap.size, 1, none⟩ = some (.string tx) ∧ W.cell? ⟨w.heap.size, 2, none⟩ = some (.int .i64 tc) ∧ W.cell? ⟨w.heap.size, 3, none⟩ = some (.slice A ts.length cap)) ∧ w.heap.size < W.heap.size) := by
    intro W hW
    have h := (bcell hW).1
    exact ⟨⟨(h _ 0 (by simp)).trans (by rw [World.cell?_alloc_new]; rfl), (h _ 1 (by simp)).trans (by rw [World.cell?_alloc_new]; rfl), (h _ 2 (by simp)).trans (by rw [World.cell?_alloc_new]; rfl), (h _ 3 (by simp)).trans (by rw [World.cell?_alloc_new]; rfl)⟩, by have := hW.size; simp at this; omega⟩
  clear hrd hls
  cases b1 with
  | false =>
    go_enter Tryz.func65, Tryz.ntmps65
    go_wp2_with fail
    refine (HTX.out _).mono ?_
    rintro e w1 ⟨rfl, hb1⟩
    have HB1 := hid (HB0.out.trans (hb1.mono HB0.out.size))
    clear hb1
    go_wp2_with fail
    go_ret
    exact ⟨by rw [HC.out]; rfl, HB1.out⟩
  | true =>
  cases b2 with
  | false =>
    go_enter Tryz.func65, Tryz.ntmps65
    go_wp2_with fail
    refine (HTX.out _).mono ?_
    rintro e w1 ⟨rfl, hb1⟩
    have HB1 := hid (HB0.out.trans (hb1.mono HB0.out.size))
    obtain ⟨⟨m0, m1, m2, m3⟩, z1⟩ := KB.out w1 hb1
    clear hb1
    go_wp2_with fail
    refine (HKI.out _).mono ?_
    rintro e w2 ⟨rfl, hb2⟩
    have HB2 := hid (HB1.out.trans (hb2.mono HB1.out.size))
    clear hb2
    go_wp2_with fail
    go_ret
    exact ⟨by rw [HC.out]; rfl, HB2.out⟩
  | true =>
    have HC2 : Hid (formS (.mk tk tx tc ts) = formsS tk ts) := by show _ = _; rw [HC.out]; rfl
    go_enter Tryz.func65, Tryz.ntmps65
    go_wp2_with fail
    refine (HTX.out _).mono ?_
    rintro e w1 ⟨rfl, hb1⟩
    have HB1 := hid hb1
    obtain ⟨⟨m0, m1, m2, m3⟩, z1⟩ := KB.out w1 hb1
    clear hb1
    go_wp2_with fail
    refine (HKI.out _).mono ?_
    rintro e w2 ⟨rfl, hb2⟩
    have HB2 := hid (HB1.out.trans (hb2.mono HB1.out.size))
    clear hb2 m0 m1 m2 m3 z1 HC
    go_wp2_with fail
    go_loopw [3] (fun i wr => Below (w.alloc (Obj.cells #[.int .i64 tk, .string tx, .int .i64 tc, .slice A ts.length cap] 24)).heap.size (w.alloc (Obj.cells #[.int .i64 tk, .string tx, .int .i64 tc, .slice A ts.length cap] 24)) wr ∧ ∃ (k : Nat), k ≤ ts.length ∧ i = .int .i64 k ∧ formsS tk (ts.drop k) = formsS tk ts) (fun i _ => ts.length - (intOf i).toNat)
    case atStart => exact ⟨HB2.out, 0, Nat.zero_le _, rfl, rfl⟩
    case round =>
      obtain ⟨hbr, k, hk, rfl, hrest⟩ := hrel
      have HR := hid hrest
      have hb : Below w.heap.size w wr := HB0.out.trans (hbr.mono HB0.out.size)
      have HBR := hid hbr
      obtain ⟨⟨m0, m1, m2, m3⟩, hz⟩ := KB.out wr hbr
      have HB := hid hb
      clear hrest hbr
      by_cases hlt : k < ts.length
      · obtain ⟨g, o, A', cap', rs', rfl, hg, c0, c1, c2, c3, _, _, hts, hc5, hc6, hrd', hls'⟩ := trees_at (H.out.1.keep (Same.of_below hb (Nat.le_refl _)) (Lt.mono hb.size)) (H.out.2.keep (Same.of_below hb (Nat.le_refl _)) (Lt.mono hb.size)) hlt
        have hmem : ts[k] ∈ ts := List.getElem_mem hlt
        have HT := hid (formsS_drop tk hlt)
        have hg' : g < wr.heap.size := hg
        have HV : Hid (SliceR treeE wr (Lt wr.heap.size) ts[k].kids (.slice A' ts[k].kids.length cap')) := ⟨A', cap', rs', rfl, hc5, hc6, hrd', hls'⟩
        have i0 : (k : Int) < (ts.length : Int) := by omega
        have KW : Hid (∀ W, Below wr.heap.size wr W → Below (w.alloc (Obj.cells #[.int .i64 tk, .string tx, .int .i64 tc, .slice (some ⟨g, o, none⟩) ts.length cap] 24)).heap.size (w.alloc (Obj.cells #[.int .i64 tk, .string tx, .int .i64 tc, .slice (some ⟨g, o, none⟩) ts.length cap] 24)) W ∧
            (W.cell? ⟨w.heap.size, 0, none⟩ = some (.int .i64 tk) ∧ W.cell? ⟨w.heap.size, 3, none⟩ = some (.slice (some ⟨g, o, none⟩) ts.length cap)) ∧
            (W.cell? ⟨g, o + k * 4, none⟩ = some (.int .i64 ts[k].kind) ∧ W.cell? ⟨g, o + k * 4 + 1, none⟩ = some (.string ts[k].text) ∧ W.cell? ⟨g, o + k * 4 + 2, none⟩ = some (.int .i64 ts[k].cols) ∧ W.cell? ⟨g, o + k * 4 + 3, none⟩ = some (.slice A' ts[k].kids.length cap'))) := by
          intro W hW
          have h := (bcell hW).1
          exact ⟨HBR.out.trans (hW.mono HBR.out.size), ⟨(h _ 0 hz).trans m0, (h _ 3 hz).trans m3⟩, (h _ _ hg').trans c0, (h _ _ hg').trans c1, (h _ _ hg').trans c2, (h _ _ hg').trans c3⟩
        have HIH : Hid (∀ W v, SliceR treeE W (Lt W.heap.size) ts[k].kids v → Calls Tryz.prog 65 #[.agg #[.int .i64 ts[k].kind, .string ts[k].text, .int .i64 ts[k].cols, v]] W fun e w' => e = .returned (.bool (formS ts[k])) ∧ Below W.heap.size W w') := fun W v hv => ih ts[k] hmem W v hv hts
        clear hrd' hls' hb hc5 hc6 hts ih
        generalize hb3 : formS ts[k] = b3 at *
        clear hb3
        cases hq1 : (ts[k].kind == 1) <;> cases hq2 : (tk == 1)
        case false.false | true.true =>
          rw [hq1, hq2] at HT
          have HF : Hid (formS (.mk tk tx tc ts) = false) := by show _ = _; rw [HC2.out, ← HR.out, HT.out]; rfl
          go_wp2_with fail
          go_quiet (fail)
          go_wp2_with fail
          go_ret
          exact ⟨by rw [HF.out]; rfl, by first | exact HB.out | exact HB.out.trans (Below.mono ⟨rfl, rfl, rfl, Nat.le_refl _, fun _ _ => rfl⟩ HB.out.size)⟩
        all_goals
          rw [hq1, hq2] at HT
          cases b3
          · have HF : Hid (formS (.mk tk tx tc ts) = false) := by show _ = _; rw [HC2.out, ← HR.out, HT.out]; rfl
            go_wp2_with fail
            go_region_held3 (fun w' => w'.cell? ⟨w.heap.size, 0, none⟩ = some (.int .i64 tk) ∧ w'.cell? ⟨w.heap.size, 3, none⟩ = some (.slice (some ⟨g, o, none⟩) ts.length cap) ∧ w'.cell? ⟨g, o + k * 4, none⟩ = some (.int .i64 ts[k].kind) ∧ w'.cell? ⟨g, o + k * 4 + 1, none⟩ = some (.string ts[k].text) ∧ w'.cell? ⟨g, o + k * 4 + 2, none⟩ = some (.int .i64 ts[k].cols) ∧ w'.cell? ⟨g, o + k * 4 + 3, none⟩ = some (.slice A' ts[k].kids.length cap')) (go_keep) (first
              | (go_at_call 65; refine (HIH.out _ _ (slice_drew HV.out)).mono ?_; rintro e w3 ⟨rfl, hb3⟩; obtain ⟨p0, ⟨p1, p2⟩, p3, p4, p5, p6⟩ := KW.out w3 (below_drew_of hb3); have HP := hid p0; clear hb3 p0))
            go_wp2_with fail
            go_ret
            exact ⟨by rw [HF.out]; rfl, HB0.out.trans (HP.out.mono HB0.out.size)⟩
          · have HF : Hid (formsS tk (ts.drop (k + 1)) = formsS tk ts) := by show _ = _; rw [← HR.out, HT.out]; rfl
            go_wp2_with fail
            go_region_held3 (fun w' => w'.cell? ⟨w.heap.size, 0, none⟩ = some (.int .i64 tk) ∧ w'.cell? ⟨w.heap.size, 3, none⟩ = some (.slice (some ⟨g, o, none⟩) ts.length cap) ∧ w'.cell? ⟨g, o + k * 4, none⟩ = some (.int .i64 ts[k].kind) ∧ w'.cell? ⟨g, o + k * 4 + 1, none⟩ = some (.string ts[k].text) ∧ w'.cell? ⟨g, o + k * 4 + 2, none⟩ = some (.int .i64 ts[k].cols) ∧ w'.cell? ⟨g, o + k * 4 + 3, none⟩ = some (.slice A' ts[k].kids.length cap')) (go_keep) (first
              | (go_at_call 65; refine (HIH.out _ _ (slice_drew HV.out)).mono ?_; rintro e w3 ⟨rfl, hb3⟩; obtain ⟨p0, ⟨p1, p2⟩, p3, p4, p5, p6⟩ := KW.out w3 (below_drew_of hb3); have HP := hid p0; clear hb3 p0))
            go_wp2_with fail
            go_roundw
            case rel => exact ⟨HP.out, k + 1, by omega, by go_num, HF.out⟩
            case measure => simp [intOf]; omega
      · have HF : Hid (formS (.mk tk tx tc ts) = true) := by show _ = _; rw [HC2.out, ← HR.out, List.drop_of_length_le (by omega), formsS]
        go_wp2_with fail
        go_ret
        exact ⟨by rw [HF.out]; rfl, HB.out⟩
def validS (t:Tree):Bool:=(t.kind == 1) && formS t && decide ((countS t:Int)≤1000) && decide ((depthS t:Int)≤24)
def NBox (W:World) (b:Nat) (k c:Int) (s:ByteArray) (v:Value):Prop :=
 W.cell? ⟨b,0,none⟩ = some (.int .i64 k)∧W.cell? ⟨b,1,none⟩ = some (.string s)∧W.cell? ⟨b,2,none⟩ = some (.int .i64 c)∧W.cell? ⟨b,3,none⟩ = some v
theorem NBox.new (w:World) (k c:Int) (s:ByteArray) (v:Value):NBox (w.alloc (Obj.cells #[.int .i64 k,.string s,.int .i64 c,v] 24)) w.heap.size k c s v :=
 ⟨by rw [World.cell?_alloc_new];rfl,by rw [World.cell?_alloc_new];rfl,by rw [World.cell?_alloc_new];rfl,by rw [World.cell?_alloc_new];rfl⟩
theorem NBox.below {W W':World} {B b:Nat} {k c:Int} {s:ByteArray} {v:Value} (h:NBox W b k c s v) (hb:Below B W W') (hB:b < B):NBox W' b k c s v :=
 ⟨((bcell hb).1 _ _ hB).trans h.1,((bcell hb).1 _ _ hB).trans h.2.1,((bcell hb).1 _ _ hB).trans h.2.2.1,((bcell hb).1 _ _ hB).trans h.2.2.2⟩
set_option maxHeartbeats 1000000 in
theorem valid_any (t : Tree) (A : Option Addr) (cap : Nat) (w : World) (hv : SliceR treeE w (Lt w.heap.size) t.kids (.slice A t.kids.length cap)) (htx : t.text.size ≤ maxLen) (hct : countS t ≤ 1000000000) :
    Calls Tryz.prog 35 #[.agg #[.int .i64 t.kind, .string t.text, .int .i64 t.cols, .slice A t.kids.length cap]] w fun e w' => e = .returned (.bool (validS t)) ∧ Below w.heap.size w w' := by
  have C1 : Hid (∀ W, Below w.heap.size w W → Calls Tryz.prog 65 #[.agg #[.int .i64 t.kind, .string t.text, .int .i64 t.cols, .slice A t.kids.length cap]] W fun e w' => e = .returned (.bool (formS t)) ∧ Below W.heap.size W w') := fun W hW => form_any t W _ (hv.below hW hW.size) htx
  have C2 : Hid (∀ W, Below w.heap.size w W → Calls Tryz.prog 66 #[.agg #[.int .i64 t.kind, .string t.text, .int .i64 t.cols, .slice A t.kids.length cap]] W fun e w' => e = .returned (.int .i64 (countS t)) ∧ Below W.heap.size W w') := fun W hW => count_any t W _ (hv.below hW hW.size) hct
  have C3 : Hid (∀ W, Below w.heap.size w W → Calls Tryz.prog 67 #[.agg #[.int .i64 t.kind, .string t.text, .int .i64 t.cols, .slice A t.kids.length cap]] W fun e w' => e = .returned (.int .i64 (depthS t)) ∧ Below W.heap.size W w') := fun W hW => depth_any t W _ (hv.below hW hW.size) hct
  have HF : Hid (validS t = ((t.kind == 1) && formS t && decide ((countS t : Int) ≤ 1000) && decide ((depthS t : Int) ≤ 24))) := rfl
  generalize formS t = b2 at *
  generalize countS t = n1 at *
  generalize depthS t = n2 at *
  generalize hvs : validS t = b at *
  obtain ⟨tk, tx, tc, ts⟩ := t
  simp only [Tree.kind, Tree.text, Tree.cols, Tree.kids] at *
  have HB0 : Hid (Below w.heap.size w (w.alloc (Obj.cells #[.int .i64 tk, .string tx, .int .i64 tc, .slice A ts.length cap] 24))) := (Below.refl _ _).alloc (Nat.le_refl _) _
  have KB : Hid (∀ W, Below (w.alloc (Obj.cells #[.int .i64 tk, .string tx, .int .i64 tc, .slice A ts.length cap] 24)).heap.size (w.alloc (Obj.cells #[.int .i64 tk, .string tx, .int .i64 tc, .slice A ts.length cap] 24)) W → NBox W w.heap.size tk tc tx (.slice A ts.length cap)) :=
    fun W hW => (NBox.new w tk tc tx _).below hW (by simp)
  clear hv htx hct hvs
  cases h1 : (tk == 1) with
  | false =>
    have HG : Hid (b = false) := by show _ = _; rw [HF.out, h1]; rfl
    go_enter Tryz.func35, Tryz.ntmps35
    go_wp2_with fail
    go_ret
    exact ⟨by rw [HG.out]; rfl, HB0.out⟩
  | true =>
  cases b2 with
  | false =>
    have HG : Hid (b = false) := by show _ = _; rw [HF.out]; simp
    go_enter Tryz.func35, Tryz.ntmps35
    go_wp2_with fail
    refine (C1.out _ HB0.out).mono ?_
    rintro e w1 ⟨rfl, hb1⟩
    have HB1 := hid (HB0.out.trans (hb1.mono HB0.out.size))
    clear hb1
    go_wp2_with fail
    go_ret
    exact ⟨by rw [HG.out]; rfl, HB1.out⟩
  | true =>
  by_cases h3 : (n1 : Int) ≤ 1000
  rotate_left
  · have HG : Hid (b = false) := by show _ = _; rw [HF.out, decide_eq_false h3]; simp
    have d3 : decide ((n1 : Int) ≤ 1000) = false := decide_eq_false h3
    clear h3
    go_enter Tryz.func35, Tryz.ntmps35
    go_wp2_with fail
    refine (C1.out _ HB0.out).mono ?_
    rintro e w1 ⟨rfl, hb1⟩
    have HB1 := hid (HB0.out.trans (hb1.mono HB0.out.size))
    obtain ⟨m0, m1, m2, m3⟩ := KB.out w1 hb1
    clear hb1
    go_wp2_with fail
    refine (C2.out _ HB1.out).mono ?_
    rintro e w2 ⟨rfl, hb2⟩
    have HB2 := hid (HB1.out.trans (hb2.mono HB1.out.size))
    clear hb2
    go_wp2_with fail
    go_ret
    exact ⟨by rw [HG.out]; rfl, HB2.out⟩
  · have HG : Hid (b = decide ((n2 : Int) ≤ 24)) := by show _ = _; rw [HF.out, h1, decide_eq_true h3]; rfl
    go_enter Tryz.func35, Tryz.ntmps35
    go_wp2_with fail
    refine (C1.out _ HB0.out).mono ?_
    rintro e w1 ⟨rfl, hb1⟩
    have HB1 := hid (HB0.out.trans (hb1.mono HB0.out.size))
    have HV1 := hid hb1
    obtain ⟨m0, m1, m2, m3⟩ := KB.out w1 hb1
    clear hb1
    go_wp2_with fail
    refine (C2.out _ HB1.out).mono ?_
    rintro e w2 ⟨rfl, hb2⟩
    have HB2 := hid (HB1.out.trans (hb2.mono HB1.out.size))
    obtain ⟨p0, p1, p2, p3⟩ := KB.out w2 (HV1.out.trans (hb2.mono HV1.out.size))
    clear hb2
    go_wp2_with fail
    refine (C3.out _ HB2.out).mono ?_
    rintro e w3 ⟨rfl, hb3⟩
    have HB3 := hid (HB2.out.trans (hb3.mono HB2.out.size))
    clear hb3
    go_wp2_with fail
    go_ret
    exact ⟨by rw [HG.out]; rfl, HB3.out⟩
def rowT (ts:List Tree):Tree:=.mk 1 ⟨#[]⟩ 0 ts
theorem toList_inj {s t:ByteArray}:s.toList = t.toList ↔ s = t:=by
 constructor
 ·intro h
  rw [Lib.toList_data,Lib.toList_data] at h
  exact ByteArray.ext (Array.toList_inj.1 h)
 ·intro h;rw [h]
mutual
def eqS:Tree→Tree→Bool
 | .mk k s c ts,.mk k' s' c' us=>k == k' && (s.toList == s'.toList && (c == c' && (ts.length == us.length && eqsS ts us)))
def eqsS:List Tree→List Tree→Bool
 | t :: ts,u :: us=>eqS t u && eqsS ts us
 | _,_=>true
end
theorem eqsS_drop {ts us:List Tree} {i:Nat} (h:i < ts.length) (h':i < us.length):eqsS (ts.drop i) (us.drop i) = (eqS ts[i] us[i] && eqsS (ts.drop (i + 1)) (us.drop (i + 1))):=by
 rw [List.drop_eq_getElem_cons h,List.drop_eq_getElem_cons h',eqsS]
mutual
theorem eqS_iff : (t u : Tree) → (eqS t u = true ↔ t = u)
  | .mk k s c ts, .mk k' s' c' us => by
    unfold eqS
    have h := eqsS_iff ts us
    simp only [Bool.and_eq_true, beq_iff_eq, Tree.mk.injEq, h, toList_inj]
theorem eqsS_iff : (ts us : List Tree) → ((ts.length = us.length ∧ eqsS ts us = true) ↔ ts = us)
  | [], [] => by simp [eqsS]
  | [], u :: us => by simp
  | t :: ts, [] => by simp
  | t :: ts, u :: us => by
    have h1 := eqS_iff t u
    have h2 := eqsS_iff ts us
    simp only [eqsS, List.length_cons, Bool.and_eq_true, List.cons.injEq, Nat.add_right_cancel_iff, ← h2, h1]
    constructor <;> (rintro ⟨a, b, c⟩; exact ⟨b, a, c⟩)
end
set_option maxHeartbeats 1000000 in
theorem same_of (xs ys:List Tree) (w:World) (A A':Option Addr) (cap cap':Nat) (hv:SliceR treeE w (Lt w.heap.size) xs (.slice A xs.length cap)) (hu:SliceR treeE w (Lt w.heap.size) ys (.slice A' ys.length cap'))
  (hE:∀ t ∈ xs,∀ (u:Tree) (W:World) (v1 v2:Value),SliceR treeE W (Lt W.heap.size) t.kids v1→SliceR treeE W (Lt W.heap.size) u.kids v2 →
   Calls Tryz.prog 22 #[.agg #[.int .i64 t.kind,.string t.text,.int .i64 t.cols,v1],.agg #[.int .i64 u.kind,.string u.text,.int .i64 u.cols,v2]] W fun e w'=>e = .returned (.bool (eqS t u))∧Below W.heap.size W w') :
  Calls Tryz.prog 53 #[.slice A xs.length cap,.slice A' ys.length cap'] w fun e w'=>e = .returned (.bool (xs.length == ys.length && eqsS xs ys))∧Below w.heap.size w w':=by
 obtain ⟨_,_,rs,hq,hcap,hmax,hrd,hls⟩:=hv
 cases hq
 obtain ⟨_,_,rs',hq,hcap',hmax',hrd',hls'⟩:=hu
 cases hq
 unfold maxLen at hmax hmax'
 have H:Hid (Reads w (Lt w.heap.size) A rs∧ListR treeE w (Lt w.heap.size) xs rs):=⟨hrd,hls⟩
 have H':Hid (Reads w (Lt w.heap.size) A' rs'∧ListR treeE w (Lt w.heap.size) ys rs'):=⟨hrd',hls'⟩
 clear hrd hls hrd' hls'
 have l0:xs.length≤9223372036854775807:=by omega
 have l1:ys.length≤9223372036854775807:=by omega
 by_cases hl:xs.length = ys.length
 ·have b0:((xs.length:Int) != (ys.length:Int)) = false:=by simp [hl]
  have b1:((xs.length:Int) == (ys.length:Int)) = true:=by simp [hl]
  have b2:decide ((xs.length:Int) = (ys.length:Int)) = true:=by simp [hl]
  have HF:Hid ((xs.length == ys.length && eqsS xs ys) = eqsS xs ys):=by show _ = _;simp [hl]
  rw [HF.out]
  clear HF
  have HL:=hid hl
  have hE':=hid hE
  clear hE hl
  go_enter Tryz.func53,Tryz.ntmps53
  go_wp2_with fail
  go_loopw [5] (fun i wr=>Below w.heap.size w wr∧∃ (k:Nat),k≤xs.length∧i = .int .i64 k∧eqsS (xs.drop k) (ys.drop k) = eqsS xs ys) (fun i _=>xs.length - (intOf i).toNat)
  case atStart=>exact ⟨Below.refl _ _,0,Nat.zero_le _,rfl,rfl⟩
  case round =>
   obtain ⟨hb,k,hk,rfl,hrest⟩:=hrel
   have HR:=hid hrest
   have HB:=hid hb
   clear hrest
   by_cases hlt:k < xs.length
   ·have hlt':k < ys.length:=by have:=HL.out;omega
    obtain ⟨g,o,B,bc,bs,rfl,hg,c0,c1,c2,c3,_,_,_,hc5,hc6,hrd,hls⟩:=trees_at (H.out.1.keep (Same.of_below hb (Nat.le_refl _)) (Lt.mono hb.size)) (H.out.2.keep (Same.of_below hb (Nat.le_refl _)) (Lt.mono hb.size)) hlt
    obtain ⟨g',o',B',bc',bs',rfl,hg',d0,d1,d2,d3,_,_,_,hd5,hd6,hrd',hls'⟩:=trees_at (H'.out.1.keep (Same.of_below hb (Nat.le_refl _)) (Lt.mono hb.size)) (H'.out.2.keep (Same.of_below hb (Nat.le_refl _)) (Lt.mono hb.size)) hlt'
    have hg1:g < wr.heap.size:=hg
    have hg2:g' < wr.heap.size:=hg'
    have hmem:xs[k] ∈ xs:=List.getElem_mem hlt
    have HT:=hid (eqsS_drop hlt hlt')
    have HV:Hid (SliceR treeE wr (Lt wr.heap.size) xs[k].kids (.slice B xs[k].kids.length bc)):=⟨B,bc,bs,rfl,hc5,hc6,hrd,hls⟩
    have HV':Hid (SliceR treeE wr (Lt wr.heap.size) ys[k].kids (.slice B' ys[k].kids.length bc')):=⟨B',bc',bs',rfl,hd5,hd6,hrd',hls'⟩
    have HC:Hid (Calls Tryz.prog 22 #[.agg #[.int .i64 xs[k].kind,.string xs[k].text,.int .i64 xs[k].cols,.slice B xs[k].kids.length bc],.agg #[.int .i64 ys[k].kind,.string ys[k].text,.int .i64 ys[k].cols,.slice B' ys[k].kids.length bc']] wr.drew fun e w'=>e = .returned (.bool (eqS xs[k] ys[k]))∧Below wr.drew.heap.size wr.drew w') :=
     hE'.out _ hmem ys[k] _ _ _ (slice_drew HV.out) (slice_drew HV'.out)
    have KW:Hid (∀ W,Below wr.heap.size wr W→Below w.heap.size w W ∧
      (W.cell? ⟨g,o + k * 4,none⟩ = some (.int .i64 xs[k].kind)∧W.cell? ⟨g,o + k * 4 + 1,none⟩ = some (.string xs[k].text)∧W.cell? ⟨g,o + k * 4 + 2,none⟩ = some (.int .i64 xs[k].cols)∧W.cell? ⟨g,o + k * 4 + 3,none⟩ = some (.slice B xs[k].kids.length bc)) ∧
      (W.cell? ⟨g',o' + k * 4,none⟩ = some (.int .i64 ys[k].kind)∧W.cell? ⟨g',o' + k * 4 + 1,none⟩ = some (.string ys[k].text)∧W.cell? ⟨g',o' + k * 4 + 2,none⟩ = some (.int .i64 ys[k].cols)∧W.cell? ⟨g',o' + k * 4 + 3,none⟩ = some (.slice B' ys[k].kids.length bc'))):=by
     intro W hW
     have h:=(bcell hW).1
     exact ⟨HB.out.trans (hW.mono HB.out.size),⟨(h _ _ hg1).trans c0,(h _ _ hg1).trans c1,(h _ _ hg1).trans c2,(h _ _ hg1).trans c3⟩,(h _ _ hg2).trans d0,(h _ _ hg2).trans d1,(h _ _ hg2).trans d2,(h _ _ hg2).trans d3⟩
    have i0:(k:Int) < (xs.length:Int):=by omega
    clear hrd hls hrd' hls' hb hc5 hc6 hd5 hd6 hE' b0 b1 b2
    generalize hb3:eqS xs[k] ys[k] = b3 at *
    clear hb3
    cases b3
    ·have HF:Hid (eqsS xs ys = false):=by show _ = _;rw [← HR.out,HT.out];rfl
     go_wp2_with fail
     go_region_held3 (fun w'=>w'.cell? ⟨g,o + k * 4,none⟩ = some (.int .i64 xs[k].kind)∧w'.cell? ⟨g,o + k * 4 + 1,none⟩ = some (.string xs[k].text)∧w'.cell? ⟨g,o + k * 4 + 2,none⟩ = some (.int .i64 xs[k].cols)∧w'.cell? ⟨g,o + k * 4 + 3,none⟩ = some (.slice B xs[k].kids.length bc)∧w'.cell? ⟨g',o' + k * 4,none⟩ = some (.int .i64 ys[k].kind)∧w'.cell? ⟨g',o' + k * 4 + 1,none⟩ = some (.string ys[k].text)∧w'.cell? ⟨g',o' + k * 4 + 2,none⟩ = some (.int .i64 ys[k].cols)∧w'.cell? ⟨g',o' + k * 4 + 3,none⟩ = some (.slice B' ys[k].kids.length bc')) (go_keep) (first
      | (go_at_call 22;refine HC.out.mono ?_;rintro e w3 ⟨rfl,hb3⟩;obtain ⟨p0,⟨p1,p2,p3,p4⟩,p5,p6,p7,p8⟩:=KW.out w3 (below_drew_of hb3);have HP:=hid p0;clear hb3 p0))
     go_wp2_with fail
     go_ret
     exact ⟨by rw [HF.out];rfl,HP.out⟩
    ·have HF:Hid (eqsS (xs.drop (k + 1)) (ys.drop (k + 1)) = eqsS xs ys):=by show _ = _;rw [← HR.out,HT.out];rfl
     go_wp2_with fail
     go_region_held3 (fun w'=>w'.cell? ⟨g,o + k * 4,none⟩ = some (.int .i64 xs[k].kind)∧w'.cell? ⟨g,o + k * 4 + 1,none⟩ = some (.string xs[k].text)∧w'.cell? ⟨g,o + k * 4 + 2,none⟩ = some (.int .i64 xs[k].cols)∧w'.cell? ⟨g,o + k * 4 + 3,none⟩ = some (.slice B xs[k].kids.length bc)∧w'.cell? ⟨g',o' + k * 4,none⟩ = some (.int .i64 ys[k].kind)∧w'.cell? ⟨g',o' + k * 4 + 1,none⟩ = some (.string ys[k].text)∧w'.cell? ⟨g',o' + k * 4 + 2,none⟩ = some (.int .i64 ys[k].cols)∧w'.cell? ⟨g',o' + k * 4 + 3,none⟩ = some (.slice B' ys[k].kids.length bc')) (go_keep) (first
      | (go_at_call 22;refine HC.out.mono ?_;rintro e w3 ⟨rfl,hb3⟩;obtain ⟨p0,⟨p1,p2,p3,p4⟩,p5,p6,p7,p8⟩:=KW.out w3 (below_drew_of hb3);have HP:=hid p0;clear hb3 p0))
     go_wp2_with fail
     go_roundw
     case rel=>exact ⟨HP.out,k + 1,by omega,by go_num,HF.out⟩
     case measure=>simp [intOf];omega
   ·have HF:Hid (eqsS xs ys = true):=by show _ = _;rw [← HR.out,List.drop_of_length_le (by omega),eqsS];simp
    clear hb
    go_wp2_with fail
    go_ret
    exact ⟨by rw [HF.out];rfl,HB.out⟩
 ·have b0:((xs.length:Int) != (ys.length:Int)) = true:=by simp;omega
  have b1:((xs.length:Int) == (ys.length:Int)) = false:=by simp;omega
  have b2:decide ((xs.length:Int) = (ys.length:Int)) = false:=by simp;omega
  have HF:Hid ((xs.length == ys.length && eqsS xs ys) = false):=by show _ = _;simp [hl]
  clear hE
  go_enter Tryz.func53,Tryz.ntmps53
  go_wp2_with fail
  go_ret
  exact ⟨by rw [HF.out];rfl,Below.refl _ _⟩
set_option maxHeartbeats 1000000 in
theorem equal_any (t:Tree):∀ (u:Tree) (w:World) (a b:Value) (_:SliceR treeE w (Lt w.heap.size) t.kids a) (_:SliceR treeE w (Lt w.heap.size) u.kids b),
  Calls Tryz.prog 22 #[.agg #[.int .i64 t.kind,.string t.text,.int .i64 t.cols,a],.agg #[.int .i64 u.kind,.string u.text,.int .i64 u.cols,b]] w fun e w'=>e = .returned (.bool (eqS t u))∧Below w.heap.size w w':=by
 induction t using Tree.ind with
 | h t ih =>
 obtain ⟨tk,tx,tc,ts⟩:=t
 intro u w a b ha hb
 obtain ⟨uk,ux,uc,us⟩:=u
 simp only [Tree.kind,Tree.text,Tree.cols,Tree.kids] at *
 have HA:=hid ha
 have HB:=hid hb
 obtain ⟨A,cap,_,rfl,_,_,_,_⟩:=ha
 obtain ⟨A',cap',_,rfl,_,_,_,_⟩:=hb
 rename_i h1 h2 h3 h4 h5 h6 h7 h8
 clear h1 h2 h3 h4 h5 h6 h7 h8
 have HC:Hid (∀ W,Below w.heap.size w W→Calls Tryz.prog 53 #[.slice A ts.length cap,.slice A' us.length cap'] W fun e w'=>e = .returned (.bool (ts.length == us.length && eqsS ts us))∧Below W.heap.size W w') :=
  fun W hW=>same_of ts us W A A' cap cap' (HA.out.below hW hW.size) (HB.out.below hW hW.size) ih
 have HE:Hid (eqS (.mk tk tx tc ts) (.mk uk ux uc us) = (tk == uk && (tx.toList == ux.toList && (tc == uc && (ts.length == us.length && eqsS ts us))))):=by show _ = _;rw [eqS]
 rw [HE.out]
 clear HE ih HA HB
 have HW:Hid (Below w.heap.size w ((w.alloc (Obj.cells #[Value.int IntKind.i64 tk,Value.string tx,Value.int IntKind.i64 tc,.slice A ts.length cap] 24)).alloc
   (Obj.cells #[Value.int IntKind.i64 uk,Value.string ux,Value.int IntKind.i64 uc,.slice A' us.length cap'] 24))):=((Below.refl _ _).alloc (Nat.le_refl _) _).alloc (by simp) _
 generalize hq:(ts.length == us.length && eqsS ts us) = b at *
 clear hq
 generalize hq1:(tk == uk) = b1 at *
 generalize hq2:(tx.toList == ux.toList) = b2 at *
 generalize hq3:(tc == uc) = b3 at *
 have hd1:decide (tk = uk) = b1:=by rw [← hq1];simp [Bool.beq_eq_decide_eq]
 have hd3:decide (tc = uc) = b3:=by rw [← hq3];simp [Bool.beq_eq_decide_eq]
 cases b1
 ·go_enter Tryz.func22,Tryz.ntmps22
  go_wp2_with fail
  go_ret
  exact ⟨by rfl,HW.out⟩
 cases b2
 ·go_enter Tryz.func22,Tryz.ntmps22
  go_wp2_with fail
  go_ret
  exact ⟨by rfl,HW.out⟩
 cases b3
 ·go_enter Tryz.func22,Tryz.ntmps22
  go_wp2_with fail
  go_ret
  exact ⟨by rfl,HW.out⟩
 go_enter Tryz.func22,Tryz.ntmps22
 go_wp2_with fail
 refine (HC.out _ HW.out).mono ?_
 rintro e w3 ⟨rfl,hb3⟩
 have HP:=hid (HW.out.trans (hb3.mono HW.out.size))
 clear hb3 HW
 go_wp2_with fail
 go_ret
 exact ⟨by rfl,HP.out⟩
end Go.Proofs.YtbjcioknfjofkaaGreat
