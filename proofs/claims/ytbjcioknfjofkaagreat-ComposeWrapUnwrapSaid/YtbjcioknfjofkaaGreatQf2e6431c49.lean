/- Texts put together. -/
import Derived.Test.YtbjcioknfjofkaaGreatQ54c061e6e4
import Derived.Test.YtbjcioknfjofkaaGreatQac4d3402fb
import Derived.Test.YtbjcioknfjofkaaGreatQ392689caba
import Derived.Test.YtbjcioknfjofkaaGreatQ2da3ec342a
import Derived.Test.YtbjcioknfjofkaaGreatQ2018d60bd3
import Derived.Test.YtbjcioknfjofkaaGreatQe827aa6e22
import Derived.Test.YtbjcioknfjofkaaGreatQ4fecc0a40f
import Derived.Test.YtbjcioknfjofkaaGreatQ2dd1390bad
import Derived.Test.YtbjcioknfjofkaaGreatQ333e573cee
set_option linter.unusedVariables false
set_option linter.unusedSimpArgs false
set_option maxRecDepth 100000
namespace Go.Proofs.YtbjcioknfjofkaaGreat
open Go.RowKit
theorem mk_kindU (k:Int) (s:ByteArray) (c:Int) (ts:List Tree):(Tree.mk k s c ts).kind = k:=rfl
theorem mk_textU (k:Int) (s:ByteArray) (c:Int) (ts:List Tree):(Tree.mk k s c ts).text = s:=rfl
theorem mk_colsU (k:Int) (s:ByteArray) (c:Int) (ts:List Tree):(Tree.mk k s c ts).cols = c:=rfl
theorem mk_kidsU (k:Int) (s:ByteArray) (c:Int) (ts:List Tree):(Tree.mk k s c ts).kids = ts:=rfl
theorem key_lemmaU {P G:Prop} (h:P→G) (k:P):G:=h k
theorem gen_ofU {wk:World} {o:Obj} {X:World} (h:Hid (AlcX wk o X)):∃ g,wk.heap.size = g:=⟨_,rfl⟩
theorem hg_ofU {X Wl wk X':World} {o:Obj} (h:Below X.heap.size X Wl) (hx:Hid (AlcX wk o X')) [BelowC Wl wk]:X.heap.size≤wk.heap.size:=(bwt h:Below X.heap.size X wk).size
theorem bwc {W X Y:World} (h:Below X.heap.size X Y) [BelowC W X]:Below W.heap.size W Y:=bw.trans (h.mono bw.size)
def RecO (w:World) (ops:List OpD) (er:Int) (e:Ending) (w':World):Prop:=∃ Ao co B2 l2 c2 B3 l3 c3 B4 l4 c4 B5 l5 c5,e = .returned (.tuple #[.agg #[.slice Ao ops.length co,.slice B2 l2 c2,.slice B3 l3 c3,.slice B4 l4 c4,.slice B5 l5 c5],.int .i64 er])∧SliceR opE w' (Lt w'.heap.size) ops (.slice Ao ops.length co)∧Below w.heap.size w w'
theorem RecF.o {w:World} {r:RecD × Int} {e:Ending} {w':World} (h:RecF w r e w'):RecO w r.1.ops r.2 e w':=by
 obtain ⟨A1,c1,A2,c2,A3,c3,A4,c4,A5,c5,rfl,r1,_,_,_,_,hb⟩:=h
 exact ⟨A1,c1,A2,_,c2,A3,_,c3,A4,_,c4,A5,_,c5,rfl,r1.keep (fun _ _=>rfl) (fun k hk=>hk.2),hb⟩
theorem wu_law {t item:Tree} {p m rr:List Int} {ra rb slot:Int} (hok:NodeOk t) (h:ofS t p m = ((rr,ra,rb),0)) (h2:(cwrapS t p m item slot).2 = 0) :
  ∃ M,applyAllS t (cwrapS t p m item slot).1.ops = (M,0)∧(cwrapS t p m item slot).1.ops.length≤1∧NodeOk M∧countS M≤1000∧(cunwrapS M (rr ++ [ra,slot,0]) []).2 = 0∧applyAllS M (cunwrapS M (rr ++ [ra,slot,0]) []).1.ops = (t,0)∧(cunwrapS M (rr ++ [ra,slot,0]) []).1.ops.length≤1∧rr.length≤24:=by
 have hr24:rr.length≤24:=by
  obtain ⟨hv,_,_,hf,h0,h1,h3⟩:=of_ok (t:=t) (p:=p) (m:=m) (by rw [h])
  rw [h] at hf h0 h1 h3
  simp only at hf h0 h1 h3
  have hp:posIn t (rr ++ [ra]) = true:=by
   rw [pos_row hf rfl,posIn_one]
   exact decide_eq_true ⟨h0,show ra≤((findS t rr).1.kids.length:Int) by omega⟩
  have h9:=(posIn_bd t _ hp).1
  have h8:=(valid_count hv).2.2.2
  simp at h9
  omega
 have hf:(validS t && formedS (wrapOp [] 0 0 [item] slot)) = true:=by
  cases hq:(validS t && formedS (wrapOp [] 0 0 [item] slot)) with
  | true=>rfl
  | false=>rw [(wrap_cases t p m item slot).1 hq] at h2;exact absurd h2 (by decide)
 rw [(wrap_cases t p m item slot).2.2 rr ra rb hf h] at h2 ⊢
 have hap:(applyAllS t [wrapOp rr ra (rb - ra) [item] slot]).2 = 0:=by
  unfold doneR at h2
  by_cases h9:(applyAllS t [wrapOp rr ra (rb - ra) [item] slot]).2 = 0
  ·exact h9
  ·rw [if_neg h9] at h2;exact absurd h2 (by decide)
 have hd:(doneR t p m [wrapOp rr ra (rb - ra) [item] slot] (posW rr ra (emptyS item.kids 0 slot (decide (rb - ra = 0)))) []).1.ops = [wrapOp rr ra (rb - ra) [item] slot]:=by
  unfold doneR
  rw [if_pos hap]
 rw [hd]
 simp only [Bool.and_eq_true] at hf
 obtain ⟨M,hM⟩:∃ M,applyAllS t [wrapOp rr ra (rb - ra) [item] slot] = (M,0):=⟨_,Prod.ext rfl hap⟩
 obtain ⟨op,pos,hu,ha,_⟩:=wrap_unwrap h hf.2 hM
 have hg:=apply_good hok (t:=t) (op:=wrapOp rr ra (rb - ra) [item] slot) (by rw [all_one hf.1 hM])
 rw [all_one hf.1 hM] at hg
 refine ⟨M,hM,Nat.le_refl _,hg.2,(valid_count hg.1).1,by rw [hu],by rw [hu];exact ha,by rw [hu];exact Nat.le_refl _,hr24⟩
set_option maxHeartbeats 16000000 in
theorem wu_walk (t : Tree) (p m : List Int) (k0 s : Int) (items : List Tree) (x : ByteArray) (f : Bool) (A Ap Am An : Option Addr) (cap cp cm cn : Nat) (w : World) (hv : TreesS w (Lt w.heap.size) t.kids (.slice A t.kids.length cap)) (hok : NodeOk t) (hp : IntsR w (Lt w.heap.size) p (.slice Ap p.length cp)) (hm : IntsR w (Lt w.heap.size) m (.slice Am m.length cm)) (hi : SliceR treeE w (Lt w.heap.size) items (.slice An items.length cn)) (hs64 : In64 s) (hx : x.size ≤ maxLen) :
    Calls Tryz.prog 5 #[.agg #[.int .i64 t.kind, .string t.text, .int .i64 t.cols, .slice A t.kids.length cap], .agg #[.slice Ap p.length cp, .slice Am m.length cm], .agg #[.int .i64 k0, .slice An items.length cn, .int .i64 s, .string x, .bool f]] w fun e w' => e = .returned (.bool true) ∧ Below w.heap.size w w' := by
  obtain ⟨W0, hW0⟩ : ∃ W0, ((w.alloc (.cells #[.int .i64 t.kind, .string t.text, .int .i64 t.cols, .slice A t.kids.length cap] 24)).alloc (.cells #[.slice Ap p.length cp, .slice Am m.length cm] 33)).alloc (.cells #[.int .i64 k0, .slice An items.length cn, .int .i64 s, .string x, .bool f] 44) = W0 := ⟨_, rfl⟩
  have hb0 : Below w.heap.size w W0 := by rw [← hW0]; exact blAlloc (blAlloc (blA _ _) _) _
  have ho1 : HasObj W0 w.heap.size (.cells #[.int .i64 t.kind, .string t.text, .int .i64 t.cols, .slice A t.kids.length cap] 24) := by rw [← hW0]; exact ((HasObj.at0 _ _).al _).al _
  have ho2 : HasObj W0 (w.heap.size + 1) (.cells #[.slice Ap p.length cp, .slice Am m.length cm] 33) := by rw [← hW0]; exact (HasObj.at1 _ _ _).al _
  have ho3 : HasObj W0 (w.heap.size + 1 + 1) (.cells #[.int .i64 k0, .slice An items.length cn, .int .i64 s, .string x, .bool f] 44) := by rw [← hW0]; exact HasObj.at2 _ _ _ _
  have HO1 := hid ho1
  have HO2 := hid ho2
  have HO3 := hid ho3
  have KB : Hid (∀ W, Below W0.heap.size W0 W → (W.cell? ⟨w.heap.size, 0, none⟩ = some (.int .i64 t.kind) ∧ W.cell? ⟨w.heap.size, 1, none⟩ = some (.string t.text) ∧ W.cell? ⟨w.heap.size, 2, none⟩ = some (.int .i64 t.cols) ∧ W.cell? ⟨w.heap.size, 3, none⟩ = some (.slice A t.kids.length cap) ∧ W.cell? ⟨w.heap.size + 1, 0, none⟩ = some (.slice Ap p.length cp) ∧ W.cell? ⟨w.heap.size + 1, 1, none⟩ = some (.slice Am m.length cm) ∧ W.cell? ⟨w.heap.size + 1 + 1, 0, none⟩ = some (.int .i64 k0) ∧ W.cell? ⟨w.heap.size + 1 + 1, 1, none⟩ = some (.slice An items.length cn) ∧ W.cell? ⟨w.heap.size + 1 + 1, 2, none⟩ = some (.int .i64 s) ∧ W.cell? ⟨w.heap.size + 1 + 1, 3, none⟩ = some (.string x) ∧ W.cell? ⟨w.heap.size + 1 + 1, 4, none⟩ = some (.bool f)) ∧ Below w.heap.size w W) := fun W hW => by
    have h1 := ho1.below hW
    have h2 := ho2.below hW
    have h3 := ho3.below hW
    exact ⟨⟨h1.cell 0, h1.cell 1, h1.cell 2, h1.cell 3, h2.cell 0, h2.cell 1, h3.cell 0, h3.cell 1, h3.cell 2, h3.cell 3, h3.cell 4⟩, hb0.trans (hW.mono hb0.size)⟩
  have CF : Hid (∀ W, Below w.heap.size w W → Calls Tryz.prog 17 #[.agg #[.int .i64 t.kind, .string t.text, .int .i64 t.cols, .slice A t.kids.length cap], .agg #[.slice Ap p.length cp, .slice Am m.length cm], .agg #[.int .i64 k0, .slice An items.length cn, .int .i64 s, .string x, .bool f]] W fun e w' => e = .returned (.bool (few14S t p m items x)) ∧ Below W.heap.size W w') := fun W hW => few14_any t p m k0 s items x f A Ap Am An cap cp cm cn W (hv.below hW hW.size) (hi.below hW hW.size) hx
  obtain ⟨hd, _⟩ := KB.out W0 (Below.refl _ _)
  obtain ⟨m0, m1, m2, m3, n0, n1, e0, e1, e2, e3, e4⟩ := hd
  cases hf : few14S t p m items x with
  | false =>
    rw [hf] at CF
    clear hf hv hok hp hm hi hs64 hx hb0 ho1 ho2 ho3 m0 m1 m2 m3 n0 n1 e0 e1 e2 e3 e4 HO1 HO2 HO3
    go_enter Tryz.func5, Tryz.ntmps5
    go_wp2_with fail
    refine (awake14_any _).mono ?_
    rintro e w1 ⟨rfl, hb1⟩
    try rw [hW0] at hb1
    obtain ⟨⟨m0, m1, m2, m3, n0, n1, e0, e1, e2, e3, e4⟩, hbw⟩ := KB.out w1 hb1
    have HK := hid hbw
    clear hb1 hbw
    go_wp2_with fail
    refine (CF.out _ HK.out).mono ?_
    rintro e w2 ⟨rfl, hb2⟩
    have HK := hid (blCall HK.out hb2)
    clear hb2 m0 m1 m2 m3 n0 n1 e0 e1 e2 e3 e4
    go_wp2_with fail
    refine (awake14_any _).mono ?_
    rintro e w3 ⟨rfl, hb3⟩
    have HK := hid (blCall HK.out hb3)
    clear hb3
    go_wp2_with fail
    go_ret
    exact ⟨rfl, HK.out⟩
  | true =>
  rw [hf] at CF
  obtain ⟨hct, hpl, hml, hcl, _⟩ := few14_bd hf
  have CO : Hid (∀ W, Below w.heap.size w W → Calls Tryz.prog 18 #[.agg #[.int .i64 t.kind, .string t.text, .int .i64 t.cols, .slice A t.kids.length cap], .agg #[.slice Ap p.length cp, .slice Am m.length cm]] W (BetV W (ofS t p m))) := fun W hW => rOf_any t p m A Ap Am cap cp cm W (hv.below hW hW.size) hok.2.2 (hp.below hW hW.size) (hm.below hW hW.size) (by omega)
  obtain ⟨⟨⟨rr, ra, rb⟩, se⟩, hof⟩ : ∃ OF, ofS t p m = OF := ⟨_, rfl⟩
  rw [hof] at CO
  have CF1 : Hid (∀ W, Below w.heap.size w W → Calls Tryz.prog 24 #[.slice An items.length cn] W (NodeP (items.headD zeroT) W)) := fun W hW => first_any items An cn W (hi.below hW hW.size)
  have CW : Hid (∀ W B b, Below w.heap.size w W → SliceR treeE W (Lt W.heap.size) (items.headD zeroT).kids (.slice B (items.headD zeroT).kids.length b) → Calls Tryz.prog 23 #[.agg #[.int .i64 t.kind, .string t.text, .int .i64 t.cols, .slice A t.kids.length cap], .agg #[.slice Ap p.length cp, .slice Am m.length cm], .agg #[.int .i64 (items.headD zeroT).kind, .string (items.headD zeroT).text, .int .i64 (items.headD zeroT).cols, .slice B (items.headD zeroT).kids.length b], .int .i64 s] W (RecO W (cwrapS t p m (items.headD zeroT) s).1.ops (cwrapS t p m (items.headD zeroT) s).2)) := fun W B b hW hk => (cWrap_any t p m (items.headD zeroT) s A Ap Am B cap cp cm b W (hv.below hW hW.size) hok (by omega) (hp.below hW hW.size) (hm.below hW hW.size) (by omega) (by omega) hk (head_ok hi) hs64).mono fun _ _ h => h.o
  have HLW : Hid (se = 0 → (cwrapS t p m (items.headD zeroT) s).2 = 0 → _) := fun h1 h2 => wu_law (rb := rb) hok (by rw [hof, h1]) h2
  generalize (cwrapS t p m (items.headD zeroT) s).1.ops = OPS at *
  generalize (cwrapS t p m (items.headD zeroT) s).2 = ER at *
  have HFS : Hid (se = 0 → validS t = true ∧ rr.length ≤ 90000 ∧ 0 ≤ ra ∧ ra ≤ rb ∧ rb ≤ 1000) := fun h1 => of_facts (m := m) (by rw [hof, h1]) (by omega) (by omega)
  have CA : Hid (∀ W Ao co, Below w.heap.size w W → OPS.length ≤ 1 → SliceR opE W (Lt W.heap.size) OPS (.slice Ao OPS.length co) → Calls Tryz.prog 21 #[.agg #[.int .i64 t.kind, .string t.text, .int .i64 t.cols, .slice A t.kids.length cap], .slice Ao OPS.length co] W (ApplyAllP W (applyAllS t OPS))) := fun W Ao co hW hl h => eAll_any t OPS A Ao cap co W (hv.below hW hW.size) hok (by omega) h (by omega)
  have CE : Hid (∀ W v, Below w.heap.size w W → SliceR treeE W (Lt W.heap.size) t.kids v → Calls Tryz.prog 22 #[.agg #[.int .i64 t.kind, .string t.text, .int .i64 t.cols, v], .agg #[.int .i64 t.kind, .string t.text, .int .i64 t.cols, .slice A t.kids.length cap]] W fun e w' => e = .returned (.bool true) ∧ Below W.heap.size W w') := fun W v hW h => by
    have h9 := equal_any t t W v _ h (hv.below hW hW.size)
    rwa [(eqS_iff t t).2 rfl] at h9
  have HS64 : Hid (In64 s) := hs64
  generalize items.headD zeroT = it at *
  clear hf hv hok hp hm hi hs64 hx hb0 ho1 ho2 ho3 hof hct hpl hml hcl
  go_enter Tryz.func5, Tryz.ntmps5
  go_wp2_with fail
  refine (awake14_any _).mono ?_
  rintro e w1 ⟨rfl, hb1⟩
  try rw [hW0] at hb1
  clear m0 m1 m2 m3 n0 n1 e0 e1 e2 e3 e4 hW0
  obtain ⟨⟨m0, m1, m2, m3, n0, n1, e0, e1, e2, e3, e4⟩, hbw⟩ := KB.out w1 hb1
  have HK := hid hbw
  have HT := hid hb1
  clear hb1 hbw
  go_wp2_with fail
  refine (CF.out _ HK.out).mono ?_
  rintro e w2 ⟨rfl, hb2⟩
  have HT := hid (blCall HT.out hb2)
  clear hb2 m0 m1 m2 m3 n0 n1 e0 e1 e2 e3 e4
  obtain ⟨⟨m0, m1, m2, m3, n0, n1, e0, e1, e2, e3, e4⟩, hbw⟩ := KB.out w2 HT.out
  have HK := hid hbw
  clear hbw
  go_wp2_with fail
  refine (CO.out _ HK.out).mono ?_
  rintro e w3 ⟨v3, rfl, hr3, hb3⟩
  simp only at hr3
  obtain ⟨Ar, cr, rfl⟩ := hr3.form
  have HT := hid (blCall HT.out hb3)
  have HR3 : Hid (IntsR w3 (Lt w3.heap.size) rr (.slice Ar rr.length cr)) := hid (hr3.keep (fun _ _ => rfl) (fun k hk => hk.2))
  clear hb3 hr3 m0 m1 m2 m3 n0 n1 e0 e1 e2 e3 e4 HK
  go_upto_region 4 with fail
  generalize hX : World.alloc w3 _ = X
  have hbx : Below w3.heap.size w3 X := by rw [← hX]; exact blA _ _
  have HOR : Hid (HasObj X w3.heap.size (.cells #[.slice Ar rr.length cr, .int .i64 ra, .int .i64 rb] 46)) := by show HasObj _ _ _; rw [← hX]; exact HasObj.at0 _ _
  have HT := hid (blCall HT.out hbx)
  have HRR := hid (HR3.out.below hbx hbx.size)
  have HO1 := hid (HO1.out.below HT.out)
  have HO2 := hid (HO2.out.below HT.out)
  have HO3 := hid (HO3.out.below HT.out)
  have HKX := hid (KB.out X HT.out).2
  have CF1 := hid (fun W (hW : Below X.heap.size X W) => CF1.out W (HKX.out.trans (hW.mono HKX.out.size)))
  have CW := hid (fun W B b (hW : Below X.heap.size X W) hk => CW.out W B b (HKX.out.trans (hW.mono HKX.out.size)) hk)
  obtain ⟨gr, hgr⟩ : ∃ gr, w3.heap.size = gr := ⟨_, rfl⟩
  simp only [hgr] at HOR ⊢
  clear hX hbx HR3 hgr HT KB CF CO
  have HW : Hid (Below X.heap.size X X) := hid (Below.refl _ _)
  apply key_lemmaU
  case' h =>
    intro KEY
    refine wp_region_noPanic ?_
    refine wp_region_held_drew (S := fun w' => Below X.heap.size X w') (by kernel_rfl) (Below.drew (Below.refl _ _)) (fun hHeld => ?_)
    refine wpAnyH_take (i := 0) (oi := ⟨some 37, _, _, _, _, _⟩) (v := _) rfl (by kernel_rfl) (by kernel_rfl) (by kernel_rfl) (fun _ _ _ h => h) (yif_row 24 (.tmp 3) rfl (by rfl) _ rfl (fun w hS => HO1.out.below hS) Tryz.underlying24 (by kernel_rfl)) hHeld ?_
    try simp only [Act.put, List.setIfInBounds_toArray, List.set_cons_zero, List.set_cons_succ]
    refine wpAnyH_take (i := 1) (oi := ⟨some 38, _, _, _, _, _⟩) (v := _) rfl (by kernel_rfl) (by kernel_rfl) (by kernel_rfl) (fun _ _ _ h => h) (yif_row 33 (.tmp 4) rfl (by rfl) _ rfl (fun w hS => HO2.out.below hS) Tryz.underlying33 (by kernel_rfl)) hHeld ?_
    try simp only [Act.put, List.setIfInBounds_toArray, List.set_cons_zero, List.set_cons_succ]
    refine wpAnyH_take (i := 2) (oi := ⟨some 39, _, _, _, _, _⟩) (v := _) rfl (by kernel_rfl) (by kernel_rfl) (by kernel_rfl) (fun _ _ _ h => h) (Or.inl ⟨by rfl, fun W hS => by clear hS; go_simp; try with_reducible rfl⟩) hHeld ?_
    try simp only [Act.put, List.setIfInBounds_toArray, List.set_cons_zero, List.set_cons_succ]
    refine wpAnyH_take (i := 3) (oi := ⟨some 40, _, _, _, _, _⟩) (v := _) rfl (by kernel_rfl) (by kernel_rfl) (by kernel_rfl) (fun _ _ _ h => h) (Or.inl ⟨by rfl, fun W hS => by have h : W.cell? ⟨(w.heap.size + 1 + 1), 1, none⟩ = some (.slice An items.length cn) := (HO3.out.below hS).cell 1; clear hS; go_simp; try with_reducible rfl⟩) hHeld ?_
    try simp only [Act.put, List.setIfInBounds_toArray, List.set_cons_zero, List.set_cons_succ]
    refine wpAnyH_take (i := 5) (oi := ⟨some 42, _, _, _, _, _⟩) (v := _) rfl (by kernel_rfl) (by kernel_rfl) (by kernel_rfl) (fun _ _ _ h => h) (Or.inl ⟨by rfl, fun W hS => by clear hS; go_simp; try with_reducible rfl⟩) hHeld ?_
    try simp only [Act.put, List.setIfInBounds_toArray, List.set_cons_zero, List.set_cons_succ]
    refine wpAnyH_take (i := 6) (oi := ⟨some 43, _, _, _, _, _⟩) (v := _) rfl (by kernel_rfl) (by kernel_rfl) (by kernel_rfl) (fun _ _ _ h => h) (Or.inl ⟨by rfl, fun W hS => by have h : W.cell? ⟨(w.heap.size + 1 + 1), 2, none⟩ = some (.int .i64 s) := (HO3.out.below hS).cell 2; clear hS; go_simp; try with_reducible rfl⟩) hHeld ?_
    try simp only [Act.put, List.setIfInBounds_toArray, List.set_cons_zero, List.set_cons_succ]
    refine wpAnyH_ready (rs := [4, 11]) (by kernel_rfl) (by simp) ?_
    refine (AllReadyH.cons (o := ⟨some 41, _, _, _, _, _⟩) rfl (fun K hK => ?_) (AllReadyH.cons (o := ⟨some 9, _, _, _, _, _⟩) rfl (fun K hK => ?_) AllReadyH.nil))
    go_simp
    refine Calls.mono (CF1.out _ (bwt HW.out)) ?_
    rintro e Wl ⟨B1, b1, rfl, hk1, hb1⟩
    try replace HBX := hid (HBX.out.below (bwc hb1))
    try replace HOPS := hid (HOPS.out.below (bwc hb1) (bwc hb1).size)
    have HK := hid hk1
    replace HW := hid ((bwt HW.out).trans (hb1.mono (bwt HW.out).size))
    clear hk1 hb1
    refine hK.out _ _ (bwt HW.out) (fun hHeld => ?_)
    clear hK K
    try simp only [Act.put, List.setIfInBounds_toArray, List.set_cons_zero, List.set_cons_succ]
    refine wpAnyH_ready (rs := [7, 11]) (by kernel_rfl) (by simp) ?_
    refine (AllReadyH.cons (o := ⟨some 44, _, _, _, _, _⟩) rfl (fun K hK => ?_) (AllReadyH.cons (o := ⟨some 9, _, _, _, _, _⟩) rfl (fun K hK => ?_) AllReadyH.nil))
    go_simp
    refine Calls.mono (CW.out _ _ _ (bwt HW.out) (HK.out.below bw bw.size)) ?_
    rintro e Wl ⟨Ao, co, B2, l2, c2, B3, l3, c3, B4, l4, c4, B5, l5, c5, rfl, ho9, hb9⟩
    try replace HBX := hid (HBX.out.below (bwc hb9))
    try replace HOPS := hid (HOPS.out.below (bwc hb9) (bwc hb9).size)
    have HOPS := hid ho9
    replace HW := hid ((bwt HW.out).trans (hb9.mono (bwt HW.out).size))
    clear ho9 hb9 HK
    refine hK.out _ _ (bwt HW.out) (fun hHeld => ?_)
    clear hK K
    try simp only [Act.put, List.setIfInBounds_toArray, List.set_cons_zero, List.set_cons_succ]
    refine wpAnyH_take (i := 8) (oi := ⟨some 36, _, _, _, _, _⟩) (v := _) rfl (by kernel_rfl) (by kernel_rfl) (by kernel_rfl) (fun _ _ _ h => h) (Or.inl ⟨by rfl, fun W hS => by clear hS; go_simp; try with_reducible rfl⟩) hHeld ?_
    try simp only [Act.put, List.setIfInBounds_toArray, List.set_cons_zero, List.set_cons_succ]
    refine wpAnyH_take (i := 9) (oi := ⟨some 45, _, _, _, _, _⟩) (v := _) rfl (by kernel_rfl) (by kernel_rfl) (by kernel_rfl) (fun _ _ _ h => h) (Or.inl ⟨by rfl, fun W hS => by clear hS; go_simp; try with_reducible rfl⟩) hHeld ?_
    try simp only [Act.put, List.setIfInBounds_toArray, List.set_cons_zero, List.set_cons_succ]
    refine wpAnyH_take (i := 10) (oi := ⟨some 46, _, _, _, _, _⟩) (v := _) rfl (by kernel_rfl) (by kernel_rfl) (by kernel_rfl) (fun _ _ _ h => h) (Or.inl ⟨by rfl, fun W hS => by clear hS; go_simp; try with_reducible rfl⟩) hHeld ?_
    try simp only [Act.put, List.setIfInBounds_toArray, List.set_cons_zero, List.set_cons_succ]
    refine wpAnyH_ready (rs := [11]) (by kernel_rfl) (by simp) ?_
    refine (AllReadyH.cons (o := ⟨some 9, _, _, _, _, _⟩) rfl (fun K hK => ?_) AllReadyH.nil)
    go_simp
    first | refine alc_drew (fun Wl HXR => ?_) | refine alc_named (fun Wl HXR => ?_)
    try replace HOPS := hid (HOPS.out.below (bwc HXR.out.1) (bwc HXR.out.1).size)
    try replace HK := hid (HK.out.below (bwc HXR.out.1) (bwc HXR.out.1).size)
    have hG9 := hg_ofU HW.out HXR
    replace HW := hid ((bwt HW.out).trans (HXR.out.1.mono (bwt HW.out).size))
    have HBX := hid HXR.out.2
    obtain ⟨g9, hg9⟩ := gen_ofU HXR
    clear HXR
    have HG9 : Hid (X.heap.size ≤ g9) := (by rw [← hg9]; exact hG9)
    clear hG9
    simp only [hg9] at HBX ⊢
    clear hg9
    refine hK.out _ _ (bwt HW.out) (fun hHeld => ?_)
    clear hK K
    try simp only [Act.put, List.setIfInBounds_toArray, List.set_cons_zero, List.set_cons_succ]
    revert hHeld
    revert HW
    revert HOPS
    revert HG9
    revert HBX
    revert c5
    revert l5
    revert B5
    revert c4
    revert l4
    revert B4
    revert c3
    revert l3
    revert B3
    revert c2
    revert l2
    revert B2
    revert co
    revert Ao
    revert b1
    revert B1
    revert g9
    revert Wl
    exact KEY
    go_simp
    first | refine alc_drew (fun Wl HXR => ?_) | refine alc_named (fun Wl HXR => ?_)
    try replace HOPS := hid (HOPS.out.below (bwc HXR.out.1) (bwc HXR.out.1).size)
    try replace HK := hid (HK.out.below (bwc HXR.out.1) (bwc HXR.out.1).size)
    have hG9 := hg_ofU HW.out HXR
    replace HW := hid ((bwt HW.out).trans (HXR.out.1.mono (bwt HW.out).size))
    have HBX := hid HXR.out.2
    obtain ⟨g9, hg9⟩ := gen_ofU HXR
    clear HXR
    have HG9 : Hid (X.heap.size ≤ g9) := (by rw [← hg9]; exact hG9)
    clear hG9
    simp only [hg9] at HBX ⊢
    clear hg9
    refine hK.out _ _ (bwt HW.out) (fun hHeld => ?_)
    clear hK K
    try simp only [Act.put, List.setIfInBounds_toArray, List.set_cons_zero, List.set_cons_succ]
    refine wpAnyH_ready (rs := [7]) (by kernel_rfl) (by simp) ?_
    refine (AllReadyH.cons (o := ⟨some 44, _, _, _, _, _⟩) rfl (fun K hK => ?_) AllReadyH.nil)
    go_simp
    refine Calls.mono (CW.out _ _ _ (bwt HW.out) (HK.out.below bw bw.size)) ?_
    rintro e Wl ⟨Ao, co, B2, l2, c2, B3, l3, c3, B4, l4, c4, B5, l5, c5, rfl, ho9, hb9⟩
    try replace HBX := hid (HBX.out.below (bwc hb9))
    try replace HOPS := hid (HOPS.out.below (bwc hb9) (bwc hb9).size)
    have HOPS := hid ho9
    replace HW := hid ((bwt HW.out).trans (hb9.mono (bwt HW.out).size))
    clear ho9 hb9 HK
    refine hK.out _ _ (bwt HW.out) (fun hHeld => ?_)
    clear hK K
    try simp only [Act.put, List.setIfInBounds_toArray, List.set_cons_zero, List.set_cons_succ]
    refine wpAnyH_take (i := 8) (oi := ⟨some 36, _, _, _, _, _⟩) (v := _) rfl (by kernel_rfl) (by kernel_rfl) (by kernel_rfl) (fun _ _ _ h => h) (Or.inl ⟨by rfl, fun W hS => by clear hS; go_simp; try with_reducible rfl⟩) hHeld ?_
    try simp only [Act.put, List.setIfInBounds_toArray, List.set_cons_zero, List.set_cons_succ]
    refine wpAnyH_take (i := 9) (oi := ⟨some 45, _, _, _, _, _⟩) (v := _) rfl (by kernel_rfl) (by kernel_rfl) (by kernel_rfl) (fun _ _ _ h => h) (Or.inl ⟨by rfl, fun W hS => by clear hS; go_simp; try with_reducible rfl⟩) hHeld ?_
    try simp only [Act.put, List.setIfInBounds_toArray, List.set_cons_zero, List.set_cons_succ]
    refine wpAnyH_take (i := 10) (oi := ⟨some 46, _, _, _, _, _⟩) (v := _) rfl (by kernel_rfl) (by kernel_rfl) (by kernel_rfl) (fun _ _ _ h => h) (Or.inl ⟨by rfl, fun W hS => by clear hS; go_simp; try with_reducible rfl⟩) hHeld ?_
    try simp only [Act.put, List.setIfInBounds_toArray, List.set_cons_zero, List.set_cons_succ]
    revert hHeld
    revert HW
    revert HOPS
    revert HG9
    revert HBX
    revert c5
    revert l5
    revert B5
    revert c4
    revert l4
    revert B4
    revert c3
    revert l3
    revert B3
    revert c2
    revert l2
    revert B2
    revert co
    revert Ao
    revert b1
    revert B1
    revert g9
    revert Wl
    exact KEY
    go_simp
    first | refine alc_drew (fun Wl HXR => ?_) | refine alc_named (fun Wl HXR => ?_)
    try replace HOPS := hid (HOPS.out.below (bwc HXR.out.1) (bwc HXR.out.1).size)
    try replace HK := hid (HK.out.below (bwc HXR.out.1) (bwc HXR.out.1).size)
    have hG9 := hg_ofU HW.out HXR
    replace HW := hid ((bwt HW.out).trans (HXR.out.1.mono (bwt HW.out).size))
    have HBX := hid HXR.out.2
    obtain ⟨g9, hg9⟩ := gen_ofU HXR
    clear HXR
    have HG9 : Hid (X.heap.size ≤ g9) := (by rw [← hg9]; exact hG9)
    clear hG9
    simp only [hg9] at HBX ⊢
    clear hg9
    refine hK.out _ _ (bwt HW.out) (fun hHeld => ?_)
    clear hK K
    try simp only [Act.put, List.setIfInBounds_toArray, List.set_cons_zero, List.set_cons_succ]
    refine wpAnyH_ready (rs := [4]) (by kernel_rfl) (by simp) ?_
    refine (AllReadyH.cons (o := ⟨some 41, _, _, _, _, _⟩) rfl (fun K hK => ?_) AllReadyH.nil)
    go_simp
    refine Calls.mono (CF1.out _ (bwt HW.out)) ?_
    rintro e Wl ⟨B1, b1, rfl, hk1, hb1⟩
    try replace HBX := hid (HBX.out.below (bwc hb1))
    try replace HOPS := hid (HOPS.out.below (bwc hb1) (bwc hb1).size)
    have HK := hid hk1
    replace HW := hid ((bwt HW.out).trans (hb1.mono (bwt HW.out).size))
    clear hk1 hb1
    refine hK.out _ _ (bwt HW.out) (fun hHeld => ?_)
    clear hK K
    try simp only [Act.put, List.setIfInBounds_toArray, List.set_cons_zero, List.set_cons_succ]
    refine wpAnyH_ready (rs := [7]) (by kernel_rfl) (by simp) ?_
    refine (AllReadyH.cons (o := ⟨some 44, _, _, _, _, _⟩) rfl (fun K hK => ?_) AllReadyH.nil)
    go_simp
    refine Calls.mono (CW.out _ _ _ (bwt HW.out) (HK.out.below bw bw.size)) ?_
    rintro e Wl ⟨Ao, co, B2, l2, c2, B3, l3, c3, B4, l4, c4, B5, l5, c5, rfl, ho9, hb9⟩
    try replace HBX := hid (HBX.out.below (bwc hb9))
    try replace HOPS := hid (HOPS.out.below (bwc hb9) (bwc hb9).size)
    have HOPS := hid ho9
    replace HW := hid ((bwt HW.out).trans (hb9.mono (bwt HW.out).size))
    clear ho9 hb9 HK
    refine hK.out _ _ (bwt HW.out) (fun hHeld => ?_)
    clear hK K
    try simp only [Act.put, List.setIfInBounds_toArray, List.set_cons_zero, List.set_cons_succ]
    refine wpAnyH_take (i := 8) (oi := ⟨some 36, _, _, _, _, _⟩) (v := _) rfl (by kernel_rfl) (by kernel_rfl) (by kernel_rfl) (fun _ _ _ h => h) (Or.inl ⟨by rfl, fun W hS => by clear hS; go_simp; try with_reducible rfl⟩) hHeld ?_
    try simp only [Act.put, List.setIfInBounds_toArray, List.set_cons_zero, List.set_cons_succ]
    refine wpAnyH_take (i := 9) (oi := ⟨some 45, _, _, _, _, _⟩) (v := _) rfl (by kernel_rfl) (by kernel_rfl) (by kernel_rfl) (fun _ _ _ h => h) (Or.inl ⟨by rfl, fun W hS => by clear hS; go_simp; try with_reducible rfl⟩) hHeld ?_
    try simp only [Act.put, List.setIfInBounds_toArray, List.set_cons_zero, List.set_cons_succ]
    refine wpAnyH_take (i := 10) (oi := ⟨some 46, _, _, _, _, _⟩) (v := _) rfl (by kernel_rfl) (by kernel_rfl) (by kernel_rfl) (fun _ _ _ h => h) (Or.inl ⟨by rfl, fun W hS => by clear hS; go_simp; try with_reducible rfl⟩) hHeld ?_
    try simp only [Act.put, List.setIfInBounds_toArray, List.set_cons_zero, List.set_cons_succ]
    revert hHeld
    revert HW
    revert HOPS
    revert HG9
    revert HBX
    revert c5
    revert l5
    revert B5
    revert c4
    revert l4
    revert B4
    revert c3
    revert l3
    revert B3
    revert c2
    revert l2
    revert B2
    revert co
    revert Ao
    revert b1
    revert B1
    revert g9
    revert Wl
    exact KEY
  case' k =>
    intro Wl g9 B1 b1 Ao co B2 l2 c2 B3 l3 c3 B4 l4 c4 B5 l5 c5 HBX HG9 HOPS HW hHeld
    refine wpAnyH_ready (rs := [12]) (by kernel_rfl) (by simp) ?_
    refine (AllReadyH.cons (o := ⟨none, _, _, _, _, _⟩) rfl (fun K hK => ?_) AllReadyH.nil)
    rw [if_pos (by rfl)]
    refine wp_store_row 36 (.tmp 9) (.tmp 45) rfl g9 #[.slice Ao OPS.length co, .slice B2 l2 c2, .slice B3 l3 c3, .slice B4 l4 c4, .slice B5 l5 c5] rfl rfl 36 _ (HBX.out.below bw) (by kernel_rfl) (by simp) (by simp [Value.oneCell']) ?_
    refine put_named (HBX.out.below bw) (fun X9 HX9 => ?_)
    refine hK.out _ _ (((bwt HW.out).trans (HX9.out.1.below (bwt HW.out).size (fun k e => by rw [e]; exact HG9.out)))) (fun hHeld => ?_)
    clear hK K
    try simp only [Act.put, List.setIfInBounds_toArray, List.set_cons_zero, List.set_cons_succ]
    refine wpAnyH_take (i := 13) (oi := ⟨some 10, _, _, _, _, _⟩) (v := _) rfl (by kernel_rfl) (by kernel_rfl) (by kernel_rfl) (fun _ _ _ h => h) (Or.inl ⟨by rfl, fun W hS => by clear hS; go_simp; try with_reducible rfl⟩) hHeld ?_
    try simp only [Act.put, List.setIfInBounds_toArray, List.set_cons_zero, List.set_cons_succ]
    refine wpAnyH_done (by kernel_rfl) ?_ _
    refine NoPanic.normal ?_
  clear CF1 CW
  have HWY : Hid (Below X.heap.size X X9) := HW.out.trans (HX9.out.1.below HW.out.size (fun k e => by rw [e]; exact HG9.out))
  have HOPX : Hid (SliceR opE X9 (Lt X9.heap.size) OPS (.slice Ao OPS.length co)) := (ops_av (slb5 HBX.out) HOPS.out).keep (fun q hq => HX9.out.1.cell hq.1 hq.2) (fun k hk => Nat.lt_of_lt_of_le hk.1 HX9.out.1.size)
  have HOB := hid HX9.out.2.1
  have HO1 := hid (HO1.out.below HWY.out)
  have HO3 := hid (HO3.out.below HWY.out)
  have HOR := hid (HOR.out.below HWY.out)
  have HRR := hid (HRR.out.below HWY.out HWY.out.size)
  have HK := hid (HKX.out.trans (HWY.out.mono HKX.out.size))
  clear HX9 HBX HOPS HG9 HW HO2 hHeld
  by_cases hse : se = 0
  rotate_left
  · have hse' : (se != 0) = true := by simp [hse]
    clear hse HLW
    go_wp2_with fail
    go_ret
    exact ⟨rfl, HK.out⟩
  by_cases her : ER = 0
  rotate_left
  · have hse' : (se != 0) = false := by simp [hse]
    have her' : (ER != 0) = true := by simp [her]
    clear hse HLW her
    go_wp2_with fail
    go_ret
    exact ⟨rfl, HK.out⟩
  subst hse
  subst her
  obtain ⟨M, hap, hl1, hMok, hMc, hu2, hua, hul, hr24⟩ := HLW.out rfl rfl
  have HFS := hid (HFS.out rfl)
  rw [hap] at CA
  have CU : Hid (∀ W B b Aq cq, SliceR treeE W (Lt W.heap.size) M.kids (.slice B M.kids.length b) → IntsR W (Lt W.heap.size) (rr ++ [ra, s, 0]) (.slice Aq (rr ++ [ra, s, 0]).length cq) → Calls Tryz.prog 25 #[.agg #[.int .i64 M.kind, .string M.text, .int .i64 M.cols, .slice B M.kids.length b], .agg #[.slice Aq (rr ++ [ra, s, 0]).length cq, .slice none 0 0]] W (RecO W (cunwrapS M (rr ++ [ra, s, 0]) []).1.ops 0)) := fun W B b Aq cq hk hp => by
    have hfl := HFS.out
    have h9 := cUnwrap_any M (rr ++ [ra, s, 0]) [] B Aq none b cq 0 W hk hMok (by omega) hp (SliceR.nil_ 0 (Nat.zero_le _) none) (by simp only [List.length_append, List.length_cons, List.length_nil]; omega) (Nat.zero_le _)
    refine h9.mono fun e w' h => ?_
    have h := h.o
    rwa [hu2] at h
  obtain ⟨OPS2, hops2⟩ : ∃ l, (cunwrapS M (rr ++ [ra, s, 0]) []).1.ops = l := ⟨_, rfl⟩
  rw [hops2] at CU hua hul
  have CA2 : Hid (∀ W B b Ao co, SliceR treeE W (Lt W.heap.size) M.kids (.slice B M.kids.length b) → SliceR opE W (Lt W.heap.size) OPS2 (.slice Ao OPS2.length co) → Calls Tryz.prog 21 #[.agg #[.int .i64 M.kind, .string M.text, .int .i64 M.cols, .slice B M.kids.length b], .slice Ao OPS2.length co] W (ApplyAllP W (t, 0))) := fun W B b Ao co hk h => by
    have h9 := eAll_any M OPS2 B Ao b co W hk hMok (by omega) h (by omega)
    rwa [hua] at h9
  have HL1 := hid hl1
  have HSL : Hid (∀ i ∈ [ra, s, (0 : Int)], In64 i) := fun i hi => by
    have := HFS.out
    simp only [List.mem_cons, List.not_mem_nil, or_false] at hi
    rcases hi with rfl | rfl | rfl
    · exact in64_small (by omega)
    · exact HS64.out
    · exact in64_small (by omega)
  have HRL : Hid (rr.length ≤ 90000) := HFS.out.2.1
  obtain ⟨mk, mx, mc, ms⟩ := M
  simp only [mk_kindU, mk_textU, mk_colsU, mk_kidsU] at CU CA2
  clear hap hl1 hMok hMc hu2 hua hul hr24 hops2 HLW HFS HS64
  have y0 : X9.cell? ⟨g9, 0, none⟩ = some (.slice Ao OPS.length co) := HOB.out.cell 0
  obtain ⟨m0, m1, m2, m3⟩ : X9.cell? ⟨w.heap.size, 0, none⟩ = some (.int .i64 t.kind) ∧ X9.cell? ⟨w.heap.size, 1, none⟩ = some (.string t.text) ∧ X9.cell? ⟨w.heap.size, 2, none⟩ = some (.int .i64 t.cols) ∧ X9.cell? ⟨w.heap.size, 3, none⟩ = some (.slice A t.kids.length cap) := ⟨HO1.out.cell 0, HO1.out.cell 1, HO1.out.cell 2, HO1.out.cell 3⟩
  go_wp2_with fail
  refine (CA.out _ _ _ HK.out HL1.out HOPX.out).mono ?_
  rintro e w6 ⟨v6, i6, rfl, hr6, hb6⟩
  simp only [mk_kindU, mk_textU, mk_colsU, mk_kidsU] at hr6 ⊢
  obtain ⟨A6, c6, rfl⟩ := hr6.form
  have HR6 := hid hr6
  have HB6 := hid hb6
  clear hr6 hb6 m0 m1 m2 m3 y0
  go_upto_region 8 with fail
  generalize hX : World.alloc w6 _ = Z4
  have hbx : Below w6.heap.size w6 Z4 := by rw [← hX]; exact blA _ _
  have HOM : Hid (HasObj Z4 w6.heap.size (.cells #[.int .i64 mk, .string mx, .int .i64 mc, .slice A6 ms.length c6] 24)) := by show HasObj _ _ _; rw [← hX]; exact HasObj.at0 _ _
  have HBZ := hid (HB6.out.trans (hbx.mono HB6.out.size))
  have HRM := hid (HR6.out.below hbx hbx.size)
  have HO1 := hid (HO1.out.below HBZ.out)
  have HO3 := hid (HO3.out.below HBZ.out)
  have HOR := hid (HOR.out.below HBZ.out)
  have HRR := hid (HRR.out.below HBZ.out HBZ.out.size)
  have HK := hid (HK.out.trans (HBZ.out.mono HK.out.size))
  obtain ⟨gm, hgm⟩ : ∃ gm, w6.heap.size = gm := ⟨_, rfl⟩
  simp only [hgm] at HOM ⊢
  clear hX hbx hgm HR6 HB6 HBZ HOPX HOB HKX HWY
  go_upto_region 8 with fail
  go_cut [14] (fun sv wx => ∃ A8 l8 c8, sv = .slice A8 l8 c8 ∧ IntsR wx (Lt wx.heap.size) (rr ++ [ra, s, 0]) (.slice A8 l8 c8) ∧ Below Z4.heap.size Z4 wx)
  case first =>
    have hr0 := HRR.out
    have KC : Hid (∀ W, Below Z4.heap.size Z4 W → W.cell? ⟨gr, 0, none⟩ = some (.slice Ar rr.length cr) ∧ W.cell? ⟨gr, 1, none⟩ = some (.int .i64 ra) ∧ W.cell? ⟨w.heap.size + 1 + 1, 2, none⟩ = some (.int .i64 s)) := fun W h => ⟨(HOR.out.below h).cell 0, (HOR.out.below h).cell 1, (HO3.out.below h).cell 2⟩
    have HE1 : Hid (∀ W', W' = Z4.alloc (.cells #[] 3) → Owns W'.drew Z4.heap.size [] (.slice (some ⟨Z4.heap.size, 0, none⟩) 0 0) ∧ IntsR W'.drew (Lt W'.drew.heap.size) rr (.slice Ar rr.length cr) ∧ Below Z4.heap.size Z4 W'.drew) := by
      rintro W' rfl
      have hb : Below Z4.heap.size Z4 (Z4.alloc (.cells #[] 3)).drew := (below_allocR _ _).drew
      exact ⟨owns_empty Z4, hr0.below hb hb.size, hb⟩
    have HE2 : Hid (∀ W', W' = (Z4.alloc (.cells #[] 3)).alloc (.cells #[.int .i64 ra, .int .i64 s, .int .i64 0] 3) → Owns W'.drew Z4.heap.size [] (.slice (some ⟨Z4.heap.size, 0, none⟩) 0 0) ∧ IntsR W'.drew (Lt W'.drew.heap.size) rr (.slice Ar rr.length cr) ∧ Below Z4.heap.size Z4 W'.drew ∧ IntsR W'.drew (fun k => k = Z4.heap.size + 1) [ra, s, 0] (.slice (some ⟨Z4.heap.size + 1, 0, none⟩) 3 3) ∧ W'.drew.heap.size = Z4.heap.size + 1 + 1) := by
      rintro W' rfl
      have hb1 : Below Z4.heap.size Z4 (Z4.alloc (.cells #[] 3)) := below_allocR _ _
      have hb : Below Z4.heap.size Z4 ((Z4.alloc (.cells #[] 3)).alloc (.cells #[.int .i64 ra, .int .i64 s, .int .i64 0] 3)).drew := (Below.alloc hb1 hb1.size _).drew
      exact ⟨(owns_empty Z4).below ((below_allocR _ _).drew), hr0.below hb hb.size, hb, ints_lit (Z4.alloc (.cells #[] 3)) [ra, s, 0] HSL.out (S := fun k => k = Z4.heap.size + 1) (by simp) _ 3 rfl rfl (by simp [maxLen]) _ _ (by simp), by simp⟩
    have HE3 : Hid (∀ W', W' = (Z4.alloc (.cells #[.int .i64 ra, .int .i64 s, .int .i64 0] 3)).alloc (.cells #[] 3) → Owns W'.drew Z4.heap.size [] (.slice (some ⟨Z4.heap.size + 1, 0, none⟩) 0 0) ∧ IntsR W'.drew (Lt W'.drew.heap.size) rr (.slice Ar rr.length cr) ∧ Below Z4.heap.size Z4 W'.drew ∧ IntsR W'.drew (fun k => k = Z4.heap.size) [ra, s, 0] (.slice (some ⟨Z4.heap.size, 0, none⟩) 3 3) ∧ W'.drew.heap.size = Z4.heap.size + 1 + 1) := by
      rintro W' rfl
      have hb1 : Below Z4.heap.size Z4 (Z4.alloc (.cells #[.int .i64 ra, .int .i64 s, .int .i64 0] 3)) := below_allocR _ _
      have hb : Below Z4.heap.size Z4 ((Z4.alloc (.cells #[.int .i64 ra, .int .i64 s, .int .i64 0] 3)).alloc (.cells #[] 3)).drew := (Below.alloc hb1 hb1.size _).drew
      have ho := (owns_empty (Z4.alloc (.cells #[.int .i64 ra, .int .i64 s, .int .i64 0] 3))).base (b' := Z4.heap.size) (by simp)
      have hsz : (Z4.alloc (.cells #[.int .i64 ra, .int .i64 s, .int .i64 0] 3)).heap.size = Z4.heap.size + 1 := by simp
      rw [hsz] at ho
      exact ⟨ho, hr0.below hb hb.size, hb, (ints_lit Z4 [ra, s, 0] HSL.out (S := fun k => k = Z4.heap.size) rfl _ 3 rfl rfl (by simp [maxLen]) _ _ rfl).keep (fun p hp => (below_allocR (Z4.alloc (.cells #[.int .i64 ra, .int .i64 s, .int .i64 0] 3)) (.cells #[] 3)).cell (by rw [hp]; simp)) (fun _ h => h), by simp⟩
    clear hr0
    have hrl' := HRL.out
    obtain ⟨p1, p2, p5⟩ := KC.out Z4 (Below.refl _ _)
    go_region_held3 (fun w' => w'.cell? ⟨gr, 0, none⟩ = some (.slice Ar rr.length cr) ∧ w'.cell? ⟨gr, 1, none⟩ = some (.int .i64 ra) ∧ w'.cell? ⟨w.heap.size + 1 + 1, 2, none⟩ = some (.int .i64 s)) (go_keep) (first
      | (refine step_app_intsR (by rfl) (.tmp 61) (.tmp 63) (by rfl) Z4.heap.size _ [] rr (by rfl) (HE1.out _ rfl).1 _ _ _ _ (by rfl) (HE1.out _ rfl).2.1 (by simp; omega) (by simp) ?_; intro v1 x1 hown1 hb1 hg1; have HO1 := hid hown1; have HB1 := hid ((HE1.out _ rfl).2.2.trans hb1); obtain ⟨p1, p2, p5⟩ := KC.out x1 HB1.out; clear hown1 hb1 hg1)
      | (refine step_app_intsR (by rfl) (.tmp 61) (.tmp 63) (by rfl) Z4.heap.size _ [] rr (by rfl) (HE2.out _ rfl).1 _ _ _ _ (by rfl) (HE2.out _ rfl).2.1 (by simp; omega) (by simp; omega) ?_; intro v1 x1 hown1 hb1 hg1; have HL1 := hid (ints_grown (HE2.out _ rfl).2.2.2.1 hg1 (by have := (HE2.out _ rfl).2.2.2.2; omega) (by simp [Value.ownBlock])); have HO1 := hid hown1; have HB1 := hid ((HE2.out _ rfl).2.2.1.trans hb1); obtain ⟨p1, p2, p5⟩ := KC.out x1 HB1.out; clear hown1 hb1 hg1)
      | (refine step_app_intsR (by rfl) (.tmp 61) (.tmp 63) (by rfl) Z4.heap.size _ [] rr (by rfl) (HE3.out _ rfl).1 _ _ _ _ (by rfl) (HE3.out _ rfl).2.1 (by simp; omega) (by simp; omega) ?_; intro v1 x1 hown1 hb1 hg1; have HL1 := hid (ints_grown (HE3.out _ rfl).2.2.2.1 hg1 (by have := (HE3.out _ rfl).2.2.2.2; omega) (by simp [Value.ownBlock])); have HO1 := hid hown1; have HB1 := hid ((HE3.out _ rfl).2.2.1.trans hb1); obtain ⟨p1, p2, p5⟩ := KC.out x1 HB1.out; clear hown1 hb1 hg1)
      | (refine step_app_intsR (by rfl) (.tmp 64) (.tmp 69) (by rfl) Z4.heap.size v1 ([] ++ rr) [ra, s, 0] (by rfl) HO1.out _ _ _ _ (by rfl) HL1.out (by simp; omega) HB1.out.size ?_; intro v2 x2 hown2 hb2 _; simp only [List.nil_append] at hown2; have HO2 := hid hown2; have HB2 := hid (HB1.out.trans hb2); obtain ⟨p1, p2, p5⟩ := KC.out x2 HB2.out; clear hown2 hb2)
      | (refine step_app_intsR (by rfl) (.tmp 64) (.tmp 69) (by rfl) Z4.heap.size v1 ([] ++ rr) [ra, s, 0] (by rfl) (HO1.out.below (below_allocR _ _)) (Lt (x1.alloc (.cells #[.int .i64 ra, .int .i64 s, .int .i64 0] 3)).heap.size) _ _ _ (by rfl) (ints_lit x1 [ra, s, 0] HSL.out (by unfold Lt; simp) _ 3 rfl rfl (by simp [maxLen]) _ _ rfl) (by simp; omega) (by have := HB1.out.size; simp; omega) ?_; intro v2 x2 hown2 hb2 _; simp only [List.nil_append] at hown2; have HO2 := hid hown2; have HB2 := hid (HB1.out.trans ((Below.alloc (Below.refl Z4.heap.size x1) HB1.out.size _).trans hb2)); obtain ⟨p1, p2, p5⟩ := KC.out x2 HB2.out; clear hown2 hb2))
    all_goals
      go_wp2_with fail
      go_meet
      have hi2 := HO2.out.ints (S := Lt x2.heap.size) (fun _ _ h => h)
      obtain ⟨A8, c8, hv2⟩ := hi2.form
      subst hv2
      exact ⟨A8, _, c8, rfl, hi2, HB2.out⟩
  case rest =>
  obtain ⟨A8, l8, c8, rfl, hi8, hb5⟩ := hcut
  obtain ⟨A9, c9, e9⟩ := hi8.form
  cases e9
  generalize rr ++ [ra, s, 0] = POS at CU hi8 ⊢
  have HI8 := hid hi8
  have HOM := hid (HOM.out.below hb5)
  have HO1 := hid (HO1.out.below hb5)
  have HRM := hid (HRM.out.below hb5 hb5.size)
  have HK := hid (HK.out.trans (hb5.mono HK.out.size))
  clear hi8 hb5 HO3 HOR HRR
  obtain ⟨q0, q1, q2, q3⟩ : wc.cell? ⟨gm, 0, none⟩ = some (.int .i64 mk) ∧ wc.cell? ⟨gm, 1, none⟩ = some (.string mx) ∧ wc.cell? ⟨gm, 2, none⟩ = some (.int .i64 mc) ∧ wc.cell? ⟨gm, 3, none⟩ = some (.slice A6 ms.length c6) := ⟨HOM.out.cell 0, HOM.out.cell 1, HOM.out.cell 2, HOM.out.cell 3⟩
  go_wp2_with fail
  refine (CU.out _ _ _ _ _ HRM.out HI8.out).mono ?_
  rintro e w9 ⟨Aox, cox, D2, n2, d2, D3, n3, d3, D4, n4, d4, D5, n5, d5, rfl, ho9, hb9⟩
  have HO9 := hid ho9
  have HB9 := hid hb9
  clear ho9 hb9 q0 q1 q2 q3
  go_upto_region 10 with fail
  generalize hX : World.alloc w9 _ = Y
  have hbx : Below w9.heap.size w9 Y := by rw [← hX]; exact blA _ _
  have HOU : Hid (HasObj Y w9.heap.size (.cells #[.slice Aox OPS2.length cox, .slice D2 n2 d2, .slice D3 n3 d3, .slice D4 n4 d4, .slice D5 n5 d5] 36)) := by show HasObj _ _ _; rw [← hX]; exact HasObj.at0 _ _
  have hb9x := HB9.out.trans (hbx.mono HB9.out.size)
  have HO9 := hid (HO9.out.below hbx hbx.size)
  have HOM := hid (HOM.out.below hb9x)
  have HO1 := hid (HO1.out.below hb9x)
  have HRM := hid (HRM.out.below hb9x hb9x.size)
  have HK := hid (HK.out.trans (hb9x.mono HK.out.size))
  clear hX hbx hb9x HB9
  obtain ⟨q0, q1, q2, q3⟩ : Y.cell? ⟨gm, 0, none⟩ = some (.int .i64 mk) ∧ Y.cell? ⟨gm, 1, none⟩ = some (.string mx) ∧ Y.cell? ⟨gm, 2, none⟩ = some (.int .i64 mc) ∧ Y.cell? ⟨gm, 3, none⟩ = some (.slice A6 ms.length c6) := ⟨HOM.out.cell 0, HOM.out.cell 1, HOM.out.cell 2, HOM.out.cell 3⟩
  have y0 : Y.cell? ⟨w9.heap.size, 0, none⟩ = some (.slice Aox OPS2.length cox) := HOU.out.cell 0
  go_wp2_with fail
  refine (CA2.out _ _ _ _ _ HRM.out HO9.out).mono ?_
  rintro e wa ⟨va, ia, rfl, hra, hba⟩
  simp only at hra ⊢
  obtain ⟨Aa, ca, rfl⟩ := hra.form
  have HRA := hid hra
  have HBA := hid hba
  clear hra hba q0 q1 q2 q3 y0
  go_upto_region 11 with fail
  generalize hX : World.alloc wa _ = Z
  have hbx : Below wa.heap.size wa Z := by rw [← hX]; exact blA _ _
  have HOZ : Hid (HasObj Z wa.heap.size (.cells #[.int .i64 t.kind, .string t.text, .int .i64 t.cols, .slice Aa t.kids.length ca] 24)) := by show HasObj _ _ _; rw [← hX]; exact HasObj.at0 _ _
  have hbax := HBA.out.trans (hbx.mono HBA.out.size)
  have HRA := hid (HRA.out.below hbx hbx.size)
  have HO1 := hid (HO1.out.below hbax)
  have HK := hid (HK.out.trans (hbax.mono HK.out.size))
  clear hX hbx hbax HBA
  obtain ⟨q0, q1, q2, q3⟩ : Z.cell? ⟨wa.heap.size, 0, none⟩ = some (.int .i64 t.kind) ∧ Z.cell? ⟨wa.heap.size, 1, none⟩ = some (.string t.text) ∧ Z.cell? ⟨wa.heap.size, 2, none⟩ = some (.int .i64 t.cols) ∧ Z.cell? ⟨wa.heap.size, 3, none⟩ = some (.slice Aa t.kids.length ca) := ⟨HOZ.out.cell 0, HOZ.out.cell 1, HOZ.out.cell 2, HOZ.out.cell 3⟩
  obtain ⟨m0, m1, m2, m3⟩ : Z.cell? ⟨w.heap.size, 0, none⟩ = some (.int .i64 t.kind) ∧ Z.cell? ⟨w.heap.size, 1, none⟩ = some (.string t.text) ∧ Z.cell? ⟨w.heap.size, 2, none⟩ = some (.int .i64 t.cols) ∧ Z.cell? ⟨w.heap.size, 3, none⟩ = some (.slice A t.kids.length cap) := ⟨HO1.out.cell 0, HO1.out.cell 1, HO1.out.cell 2, HO1.out.cell 3⟩
  go_wp2_with fail
  refine (CE.out _ _ HK.out HRA.out).mono ?_
  rintro e wz ⟨rfl, hbz⟩
  have HK := hid (blCall HK.out hbz)
  clear hbz q0 q1 q2 q3 m0 m1 m2 m3
  go_wp2_with fail
  go_ret
  exact ⟨rfl, HK.out⟩
end Go.Proofs.YtbjcioknfjofkaaGreat
