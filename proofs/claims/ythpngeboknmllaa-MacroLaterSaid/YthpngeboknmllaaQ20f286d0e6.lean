/- Texts put together. -/
import Derived.Test.YthpngeboknmllaaQf30ca507da
import Derived.Test.YthpngeboknmllaaQ99d104254e
import Derived.Test.YthpngeboknmllaaQ8255845d33
import Derived.Test.YthpngeboknmllaaQ2208916dc1
set_option linter.unusedVariables false
set_option linter.unusedSimpArgs false
set_option maxRecDepth 100000
namespace Go.Proofs.Ythpngeboknmllaa
open Go.RowKit Go.WideMaps Go.ChangeMaps
theorem app_str {w:World} {b:Nat} {names:List ByteArray} {s:ByteArray} {v:Value} {ops:Array Oper} {rest:List Oper} {o:Oper} {a:Act} {Q:Exit→Act→World→Prop} (x y:Operand)
  (hgd:o.guard = none) (ho:o.op = .call { callee:=.builtin .append,args:=#[x,y],argTypes:=#[49,49] })
  (hown:OwnE strE 9 w b names v) {g:Nat} (hxy:a.eval x = v∧a.eval y = .slice (some ⟨g,0,none⟩) 1 1) (h8:HasObj w g (.cells #[.string s] 9)) (hs:s.size≤maxLen)
  (hbound:names.length≤100000) (hb:b≤w.heap.size)
  (h:∀ v' w',OwnE strE 9 w' b (names ++ [s]) v'→w.grownBy w' v.ownBlock→(v'.ownBlock = v.ownBlock∨v'.ownBlock = some w.heap.size)→wpList Try.prog ops Q rest (a.put o.dst v') w'):wpList Try.prog ops Q (o :: rest) a w:=by
 obtain ⟨i0,hi0,hz0,hz1,hz2⟩:=strInfo
 obtain ⟨cs,ho1,ho2⟩:=hown
 have hls:ListR strE w (FreshIn b w v) [s] [.string s]:=ListR.single (E:=strE) ⟨rfl,hs⟩
 have hl:=hls.len
 refine wpList_append_any w hgd x y 49 ho b 9 i0 _ 1 16 Try.underlying49 hi0 hz0 hz1 hz2 rfl (by omega) v _ _ hxy.1 ho1 (fun k=>k = g) (some ⟨g,0,none⟩) 1 1 [.string s] hxy.2 hl (fun _=>⟨g,0,rfl,rfl,fun j u hu=>by rw [Nat.zero_add];exact (h8.cell j).trans (by simpa using hu)⟩) hls.one (by simp only [maxLen];omega) (by omega) hb ?_
 intro v' w' h3 h4 h5
 exact h v' w' (ownE_grown ho1 ho2 hls h3 h4 h5) h4 h5
def AddP (w:World) (tb bm b:Nat) (vn:Value) (names:List ByteArray) (G:List UInt8→Option (Int × Tree)) (s:ByteArray) (P:Int) (t:Tree) (e:Ending) (w':World):Prop :=
 ∃ er vn' names' G',e = .returned (.int .i64 er)∧TabAt w' tb bm b vn' names' G'∧Kept (TabN tb bm vn) w w'∧(vn'.ownBlock = vn.ownBlock∨∃ k,vn'.ownBlock = some k∧w.heap.size≤k)∧(G' = G∨(G s.data.toList = none∧G' = fun q=>if q = s.data.toList then some (P,t) else G q))∧names'.length≤names.length + 1
set_option maxHeartbeats 8000000 in
theorem add_any (tb bm b : Nat) (vn : Value) (names : List ByteArray) (G : List UInt8 → Option (Int × Tree)) (s : ByteArray) (hs : s.size ≤ maxLen) (P : Int) (hP : In64 P) (t : Tree) (A : Option Addr) (cap : Nat) (w : World) (h : TabAt w tb bm b vn names G) (hnl : names.length ≤ 1000) (hv : SliceR treeE w (fun k => k < w.heap.size ∧ ¬ TabN tb bm vn k) t.kids (.slice A t.kids.length cap)) (hok : NodeOk t) (hct : countS t ≤ 1000000) :
    Calls Try.prog 9 #[.pointer (some ⟨tb, 0, none⟩), .string s, .int .i64 P, .agg #[.int .i64 t.kind, .string t.text, .int .i64 t.cols, .slice A t.kids.length cap]] w (AddP w tb bm b vn names G s P t) := by
  obtain ⟨W0, hW0⟩ : ∃ W0, w.alloc (.cells #[.int .i64 t.kind, .string t.text, .int .i64 t.cols, .slice A t.kids.length cap] 31) = W0 := ⟨_, rfl⟩
  have hb0 : Below w.heap.size w W0 := by rw [← hW0]; exact blA _ _
  have HB0 := hid hb0
  have ho0 : HasObj W0 w.heap.size (.cells #[.int .i64 t.kind, .string t.text, .int .i64 t.cols, .slice A t.kids.length cap] 31) := by rw [← hW0]; exact HasObj.at0 _ _
  have HO := hid ho0
  have HTA := hid h
  have HT0 := hid (h.below hb0)
  have HV := hid (hv.keep (fun p hp => hb0.cell hp.1) (fun k hk => ⟨Nat.lt_of_lt_of_le hk.1 hb0.size, hk.2⟩) : SliceR treeE W0 (fun k => k < W0.heap.size ∧ ¬ TabN tb bm vn k) t.kids (.slice A t.kids.length cap))
  have HV0 := hid hv
  have HOK := hid hok
  have HCT := hid hct
  have HE : Hid (∀ W er, Below W0.heap.size W0 W → AddP w tb bm b vn names G s P t (.returned (.int .i64 er)) W) := fun W er hW => ⟨er, vn, names, G, rfl, (h.below hb0).below hW, (Kept.of_below (hb0.trans (hW.mono hb0.size)) _), .inl rfl, .inl rfl, Nat.le_succ _⟩
  have HSY : Hid (∀ W, Calls Try.prog 16 #[.string s] W fun e w' => e = .returned (.bool (symbolS s)) ∧ W = w') := fun W => nSymbol_q s W hs
  have HTM : Hid (∀ W, Below W0.heap.size W0 W → Calls Try.prog 17 #[.agg #[.int .i64 t.kind, .string t.text, .int .i64 t.cols, .slice A t.kids.length cap], .int .i64 P] W (BoolP W (tmplS t P))) := fun W hW => template_any t A cap P W (HV.out.keep (fun p hp => hW.cell hp.1) (fun k hk => Nat.lt_of_lt_of_le hk.1 hW.size)) hok hct
  obtain ⟨m0, m1, m2, m3⟩ := four9 ho0
  have hsm : s.size ≤ 9223372036854775807 := by unfold maxLen at hs; omega
  clear hv hok hct hb0 ho0 h
  generalize symbolS s = bs at *
  generalize tmplS t P = bt at *
  have ENT : True := trivial
  by_cases h1 : (s.size : Int) < 2
  · have d1 : decide ((s.size : Int) < 2) = true := by simpa using h1
    clear h1
    go_enter Try.func9, Try.ntmps9
    go_wp2_with fail
    go_ret
    exact HE.out _ _ (Below.refl _ _)
  have d1 : decide ((s.size : Int) < 2) = false := by simpa using h1
  clear h1
  cases bs
  · go_enter Try.func9, Try.ntmps9
    go_wp2_with fail
    refine (HSY.out _).mono ?_
    rintro e w1 ⟨rfl, rfl⟩
    go_wp2_with fail
    go_ret
    exact HE.out _ _ (Below.refl _ _)
  cases bt
  · go_enter Try.func9, Try.ntmps9
    go_wp2_with fail
    refine (HSY.out _).mono ?_
    rintro e w1 ⟨rfl, rfl⟩
    go_wp2_with fail
    refine (HTM.out _ (Below.refl _ _)).mono ?_
    rintro e w2 ⟨rfl, hb2⟩
    have HB2 := hid hb2
    clear hb2
    go_wp2_with fail
    go_ret
    exact HE.out _ _ HB2.out
  go_enter Try.func9, Try.ntmps9
  go_wp2_with fail
  refine (HSY.out _).mono ?_
  rintro e w1 ⟨rfl, rfl⟩
  go_wp2_with fail
  refine (HTM.out _ (Below.refl _ _)).mono ?_
  rintro e w2 ⟨rfl, hb2⟩
  have HB2 := hid hb2
  have h2 := HT0.out.below hb2
  obtain ⟨_, _, _, _, ht, hown, F, n, hF, hn, hG⟩ := h2
  have mm1 := ht.cell 1
  simp only [List.getElem?_toArray, List.getElem?_cons_zero, List.getElem?_cons_succ] at mm1
  have lk := hF.look s hs
  have hGs := hG s.data.toList
  obtain ⟨g, hg⟩ : ∃ g, G s.data.toList = g := ⟨_, rfl⟩
  rw [hg] at hGs
  clear hb2 m0 m1 m2 m3 HSY HTM hW0
  cases g with
  | some r =>
    obtain ⟨P', t'⟩ := r
    obtain ⟨v, e1, A', cap', rfl, _⟩ := hGs
    rw [e1] at lk
    simp only [Option.getD_some, Option.isSome_some] at lk
    clear ht hown hF hn hG e1 hg
    go_upto_region 6 with (first
      | (refine sR 47 9 34 (HasObj.at0 _ _) ?_)
      | fail)
    generalize hX : World.setRow _ _ _ = X
    have HBX := hid (HB2.out.trans ((putB hX).mono HB2.out.size))
    clear hX lk mm1
    go_wp2_with fail
    go_ret
    exact HE.out _ _ HBX.out
  | none =>
    simp only at hGs
    rw [hGs] at lk
    simp only [Option.getD_none, Option.isSome_none, tmplZ] at lk
    go_upto_region 6 with (first
      | (refine sR 47 9 34 (HasObj.at0 _ _) ?_)
      | fail)
    generalize hX : World.setRow _ _ _ = X
    have hbx := putB hX
    have HBX2 := hid hbx
    have HBX := hid (HB2.out.trans (hbx.mono HB2.out.size))
    have HTX := hid (ht.below hbx)
    have HFX := hid (hF.keep (hbx.block _ hF.lt))
    have HOX := hid (hown.below hbx)
    have HN := hid hn
    have HG := hid hG
    have HGS := hid hg
    clear hX lk mm1 ht hown hF hn hG hg hbx hGs HT0
    obtain ⟨An, cn, rfl⟩ := HOX.out.form
    have t0 := HTX.out.cell 0
    have t1 := HTX.out.cell 1
    simp only [List.getElem?_toArray, List.getElem?_cons_zero, List.getElem?_cons_succ] at t0 t1
    by_cases h64 : names.length < 64
    rotate_left
    · have d3 : decide ((64 : Int) ≤ (names.length : Int)) = true := by simp; omega
      have d3' : decide (64 ≤ names.length) = true := by simp; omega
      clear h64
      go_wp2_with fail
      go_ret
      exact HE.out _ _ HBX.out
    have d3 : decide ((64 : Int) ≤ (names.length : Int)) = false := by simp; omega
    have d3' : decide (64 ≤ names.length) = false := by simp; omega
    clear h64
    have HXW := hid (HB0.out.trans (HBX.out.mono HB0.out.size))
    have HGT : Hid (HasObj X w.heap.size (.cells #[.int .i64 t.kind, .string t.text, .int .i64 t.cols, .slice A t.kids.length cap] 31)) := hid (HO.out.below HBX.out)
    have hal := blA X (.cells #[.string s] 9)
    have HNS := hid (HasObj.at0 X (.cells #[.string s] 9))
    have HOA := hid (HOX.out.below hal)
    have HTA2 := hid (HTX.out.below hal)
    have HGA := hid (HGT.out.below hal)
    have HFA := hid (HFX.out.keep (hal.block _ HFX.out.lt))
    have HKAb := hid (Kept.of_below (HBX2.out.trans (hal.mono HBX2.out.size)) (TabN tb bm (.slice An names.length cn)))
    have HKA := hid (Kept.of_below (HXW.out.trans (hal.mono HXW.out.size)) (TabN tb bm (.slice An names.length cn)))
    obtain ⟨hq1, hq2, hq3, hq4, _⟩ := HTA.out
    have HQ : Hid (tb ≠ bm ∧ tb < b ∧ bm < b ∧ b ≤ w.heap.size) := ⟨hq1, hq2, hq3, hq4⟩
    have HOL : Hid (∀ k, (Value.slice An names.length cn).ownBlock = some k → b ≤ k ∧ k < w.heap.size) := fun k hk => by
      obtain ⟨_, _, _, _, _, ho9, _⟩ := HTA.out
      exact ho9.own_lt k hk
    have HBA : Hid (b ≤ (X.alloc (.cells #[.string s] 9)).heap.size) := by show _ ≤ _; have := HQ.out; have := HXW.out.size; simp; omega
    have HVW := hid HV0.out
    have q47 : ∀ W, (binOp .eql 50 (.map (some bm)) (.map none)).run Try.prog W = .ok (.bool false) W := fun W => by kernel_rfl
    clear hal hq1 hq2 hq3 hq4
    go_upto_region 13 with (first
      | (refine app_str (.tmp 56) (.tmp 58) rfl rfl HOA.out ⟨rfl, rfl⟩ HNS.out hs (by omega) HBA.out ?_
         intro v3 w3 ho3 hg3 hv3
         obtain ⟨A9, n9, c9, e9⟩ : ∃ A n c, v3 = .slice A n c := by obtain ⟨A, c, e⟩ := ho3.form; exact ⟨A, _, c, e⟩
         subst e9
         have HO3 := hid ho3
         have HV3 := hid hv3
         have HT3 := hid (HTA2.out.grown hg3 (fun e => by have := (HOL.out _ e.symm).1; have := HQ.out; omega))
         have HG3 := hid (HGA.out.grown hg3 (fun e => by have := (HOL.out _ e.symm).2; omega))
         have HF3 := hid (HFA.out.keep (hg3.block bm HFA.out.lt (fun e => by have := (HOL.out _ e.symm).1; have := HQ.out; omega)))
         have HK3b := hid (HKAb.out.next (Kept.grown hg3) (fun k hk e => .inr (.inr e)))
         have HK3 := hid (HKA.out.next (Kept.grown hg3) (fun k hk e => .inr (.inr e)))
         have t3 := HT3.out.cell 0
         have t3f := HT3.out.free 0
         simp only [List.getElem?_toArray, List.getElem?_cons_zero, List.getElem?_cons_succ] at t3
         clear ho3 hg3 hv3)
      | fail)
    generalize hW : World.setCell _ _ _ = W4
    have hkb : Kept (fun k => k = tb) w3 W4 := by rw [← hW]; exact Kept.set _ ⟨tb, 0, none⟩ _
    have HT4 : Hid (HasObj W4 tb (.cells #[.slice A9 n9 c9, .map (some bm)] 52)) := by show HasObj _ _ _; rw [← hW]; exact HT3.out.set (i := 0) _
    have HG4 := hid (hkb.obj HG3.out (fun e => by have := HQ.out; omega))
    have HF4 := hid (HF3.out.keep (hkb.block _ HF3.out.lt (fun e => HQ.out.1 e.symm)))
    have HK4b := hid (HK3b.out.next hkb (fun k hk e => .inl e))
    have HK4 := hid (HK3.out.next hkb (fun k hk e => .inl e))
    have HO4 := hid (HO3.out.keptN hkb (fun k hk e => by have := HQ.out; omega))
    clear hW hkb t3 t3f t0 t1
    have CD : Hid (Calls Try.prog 18 #[.agg #[.int .i64 t.kind, .string t.text, .int .i64 t.cols, .slice A t.kids.length cap]] W4.drew (CopyRes W4.drew t)) := deepNode_any t A cap W4.drew ((HVW.out.keep (fun p hp => HK4.out.cell hp.1 hp.2) (fun k hk => Nat.lt_of_lt_of_le hk.1 HK4.out.size) : SliceR treeE W4 (Lt W4.heap.size) t.kids (.slice A t.kids.length cap)).keep (fun _ _ => rfl) (fun _ h => h)) HOK.out HCT.out
    have HT3 := hid HT4.out.dr
    have HO3 := hid HG4.out.dr
    have HMF := HF4
    have HNL : Hid (n < maxLen) := by show _ < _; have := HN.out; unfold maxLen; omega
    have HTB : Hid (tb ≠ bm) := HQ.out.1
    have HOB : Hid (w.heap.size ≠ bm) := by show _ ≠ _; have := HQ.out; omega
    go_upto_region 13 with fail
    refine wp_region_noPanic ?_
    refine wp_region_held_drew (S := fun w' => HasObj w' tb (.cells #[.slice A9 n9 c9, .map (some bm)] 52) ∧ HasObj w' w.heap.size (.cells #[.int .i64 t.kind, .string t.text, .int .i64 t.cols, .slice A t.kids.length cap] 31)) (by kernel_rfl) ⟨HT3.out, HO3.out⟩ (fun hHeld => ?_)
    refine tk 0 62 rfl ?_
    refine tk 1 63 rfl ?_
    refine tk 2 64 rfl ?_
    refine tk 3 65 rfl ?_ (hy := Or.inl ⟨by rfl, fun W hS => by have h : W.cell? ⟨tb, 1, none⟩ = some (.map (some bm)) := hS.1.cell 1; clear hS; go_simp; try with_reducible rfl⟩)
    refine tk 4 66 rfl ?_
    refine tk 5 67 rfl ?_
    refine tr 6 68 31 7 rfl (fun w hS => hS.2) Try.underlying31 ?_
    refine r1 7 (some 69) rfl (fun K hK => ?_)
    go_simp
    refine Calls.mono CD.out ?_
    rintro e wk ⟨vk, rfl, hvk, hbk⟩
    obtain ⟨A8, c8, rfl⟩ := hvk.form
    have HVK := hid hvk
    have HBK := hid hbk
    have HT3 := hid (HT3.out.below hbk)
    have HO3 := hid (HO3.out.below hbk)
    clear hvk hbk
    refine hK.out _ _ (⟨HT3.out, HO3.out⟩) (fun hHeld => ?_)
    clear hK K
    refine tk 8 70 rfl ?_
    refine r1 9 none rfl (fun K hK => ?_)
    have hst := (HMF.out.keep (HBK.out.block _ HMF.out.lt)).store HNL.out s hs (.agg #[.int .i64 P, .int .i64 t.kind, .string t.text, .int .i64 t.cols, .slice A8 t.kids.length c8])
    obtain ⟨w9, hrun, hmf9, htu⟩ := hst
    go_simp
    have hk9 := kept_turned htu
    have HMF9 := hid hmf9
    have HK9 := hid hk9
    have HT9 := hid (hk9.obj HT3.out HTB.out)
    have HO9 := hid (hk9.obj HO3.out HOB.out)
    clear hrun hmf9 htu hk9
    refine hK.out _ _ (⟨HT9.out, HO9.out⟩) (fun hHeld => ?_)
    clear hK K
    try simp only [Act.put, List.setIfInBounds_toArray, List.set_cons_zero, List.set_cons_succ]
    refine wpAnyH_done (by kernel_rfl) ?_ _
    refine NoPanic.normal ?_
    go_wp2_with fail
    go_ret
    have HKV := hid ((HK4b.out.next (N' := TabN tb bm (.slice An names.length cn)) (⟨HBK.out.os, HBK.out.tape, HBK.out.output, HBK.out.size, fun k hk _ => HBK.out.block k hk⟩ : Kept _ W4 wk) (fun _ _ e => e)).next HK9.out (fun k _ e => .inr (.inl e)))
    have HKW := hid ((HK4.out.next (N' := TabN tb bm (.slice An names.length cn)) (⟨HBK.out.os, HBK.out.tape, HBK.out.output, HBK.out.size, fun k hk _ => HBK.out.block k hk⟩ : Kept _ W4 wk) (fun _ _ e => e)).next HK9.out (fun k _ e => .inr (.inl e)))
    refine ⟨0, .slice A9 n9 c9, names ++ [s], fun q => if q = s.data.toList then some (P, t) else G q, rfl, ⟨HQ.out.1, HQ.out.2.1, HQ.out.2.2.1, Nat.le_trans HQ.out.2.2.2 HKW.out.size, HT9.out, (HO4.out.below (⟨HBK.out.os, HBK.out.tape, HBK.out.output, HBK.out.size, HBK.out.block⟩ : Below W4.heap.size W4 wk)).keptN HK9.out (fun k hk e => by have := HQ.out; omega), _, n + 1, HMF9.out, by have := HN.out; simp; omega, fun p => ?_⟩, HKW.out, ?_, .inr ⟨HGS.out, rfl⟩, by simp⟩
    · by_cases he : p = s.data.toList
      · simp only [if_pos he]
        refine ⟨_, rfl, A8, c8, rfl, HVK.out.keep (fun q hq => HK9.out.cell hq.2 (fun e => ?_)) (fun k hk => ⟨Nat.lt_of_lt_of_le hk.2 HK9.out.size, fun e => ?_⟩), HOK.out, HCT.out⟩
        · have h1 : W4.heap.size ≤ q.block := hq.1
          have := HMF.out.lt
          omega
        · have h1 : W4.heap.size ≤ k := hk.1
          rcases e with e | e | e
          · have := HT4.out.lt; omega
          · have := HMF.out.lt; omega
          · have := (HO4.out.own_lt k e.symm).2; omega
      · simp only [if_neg he]
        have h1 := HG.out p
        revert h1
        cases G p with
        | none => exact id
        | some r =>
          rintro ⟨v, e1, e2⟩
          refine ⟨v, e1, e2.kept HKV.out (fun k hk e => ?_)⟩
          rcases e with e | e | e
          · exact .inl e
          · exact .inr (.inl e)
          · rcases HV3.out with h2 | h2
            · exact .inr (.inr (e.trans h2))
            · have h3 := e.trans h2
              injection h3 with h3
              have h4 := HBX2.out.size
              simp at h3
              omega
    · rcases HV3.out with h1 | h1
      · exact .inl h1
      · exact .inr ⟨_, h1, by have := HXW.out.size; simp; omega⟩
end Go.Proofs.Ythpngeboknmllaa
