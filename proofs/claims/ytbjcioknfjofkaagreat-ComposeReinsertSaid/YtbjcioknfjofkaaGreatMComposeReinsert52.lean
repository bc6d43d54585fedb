/- Texts put together. -/
import Derived.Test.YtbjcioknfjofkaaGreatMComposeReinsert24
import Derived.Test.YtbjcioknfjofkaaGreatMComposeReinsert31
import Derived.Test.YtbjcioknfjofkaaGreatMComposeReinsert43
import Derived.Test.YtbjcioknfjofkaaGreatMComposeReinsert47
import Derived.Test.YtbjcioknfjofkaaGreatMComposeReinsert50
import Derived.Test.YtbjcioknfjofkaaGreatMComposeReinsert51
set_option linter.unusedVariables false
set_option linter.unusedSimpArgs false
set_option maxRecDepth 100000
namespace Go.Proofs.YtbjcioknfjofkaaGreat
open Go.RowKit
theorem few14_facts {t:Tree} {p m:List Int} {items:List Tree} {x:ByteArray} (h:few14S t p m items x = true):countS t≤300∧p.length≤60∧m.length≤60∧countS (rowT items)≤100∧x.size≤300:=by
 unfold few14S at h
 simp only [Bool.and_eq_true,decide_eq_true_eq] at h
 have h1:=few_count h.1
 have h2:=few_count h.2.2.2.1
 exact ⟨by omega,by omega,by omega,by omega,by omega⟩
set_option maxHeartbeats 8000000 in
theorem rei_walk (t : Tree) (p m : List Int) (A Ap Am : Option Addr) (cap cp cm : Nat) (w : World) (hv : TreesS w (Lt w.heap.size) t.kids (.slice A t.kids.length cap)) (hok : NodeOk t) (hp : IntsR w (Lt w.heap.size) p (.slice Ap p.length cp)) (hm : IntsR w (Lt w.heap.size) m (.slice Am m.length cm)) :
    Calls Tryz.prog 4 #[.agg #[.int .i64 t.kind, .string t.text, .int .i64 t.cols, .slice A t.kids.length cap], .agg #[.slice Ap p.length cp, .slice Am m.length cm]] w fun e w' => e = .returned (.bool true) ∧ Below w.heap.size w w' := by
  obtain ⟨W0, hW0⟩ : ∃ W0, (w.alloc (.cells #[.int .i64 t.kind, .string t.text, .int .i64 t.cols, .slice A t.kids.length cap] 24)).alloc (.cells #[.slice Ap p.length cp, .slice Am m.length cm] 33) = W0 := ⟨_, rfl⟩
  have hb0 : Below w.heap.size w W0 := by rw [← hW0]; exact blAlloc (blA _ _) _
  have ho1 : HasObj W0 w.heap.size (.cells #[.int .i64 t.kind, .string t.text, .int .i64 t.cols, .slice A t.kids.length cap] 24) := by rw [← hW0]; exact (HasObj.at0 _ _).al _
  have ho2 : HasObj W0 (w.heap.size + 1) (.cells #[.slice Ap p.length cp, .slice Am m.length cm] 33) := by rw [← hW0]; exact HasObj.at1 _ _ _
  have KB : Hid (∀ W, Below W0.heap.size W0 W → (W.cell? ⟨w.heap.size, 0, none⟩ = some (.int .i64 t.kind) ∧ W.cell? ⟨w.heap.size, 1, none⟩ = some (.string t.text) ∧ W.cell? ⟨w.heap.size, 2, none⟩ = some (.int .i64 t.cols) ∧ W.cell? ⟨w.heap.size, 3, none⟩ = some (.slice A t.kids.length cap) ∧ W.cell? ⟨w.heap.size + 1, 0, none⟩ = some (.slice Ap p.length cp) ∧ W.cell? ⟨w.heap.size + 1, 1, none⟩ = some (.slice Am m.length cm)) ∧ Below w.heap.size w W) := fun W hW => by
    have h1 := ho1.below hW
    have h2 := ho2.below hW
    exact ⟨⟨h1.cell 0, h1.cell 1, h1.cell 2, h1.cell 3, h2.cell 0, h2.cell 1⟩, hb0.trans (hW.mono hb0.size)⟩
  have CF : Hid (∀ W, Below w.heap.size w W → Calls Tryz.prog 17 #[.agg #[.int .i64 t.kind, .string t.text, .int .i64 t.cols, .slice A t.kids.length cap], .agg #[.slice Ap p.length cp, .slice Am m.length cm], .agg #[.int .i64 0, .slice none 0 0, .int .i64 0, .string ⟨#[]⟩, .bool false]] W fun e w' => e = .returned (.bool (few14S t p m [] ⟨#[]⟩)) ∧ Below W.heap.size W w') := fun W hW => few14_any t p m 0 0 [] ⟨#[]⟩ false A Ap Am none cap cp cm 0 W (hv.below hW hW.size) (SliceR.nil_ 0 (Nat.zero_le _) none) (Nat.zero_le _)
  obtain ⟨hd, _⟩ := KB.out W0 (Below.refl _ _)
  obtain ⟨m0, m1, m2, m3, n0, n1⟩ := hd
  cases hf : few14S t p m [] ⟨#[]⟩ with
  | false =>
    rw [hf] at CF
    obtain ⟨tk, tx, tc, ts⟩ := t
    simp only [Tree.kind, Tree.text, Tree.cols, Tree.kids] at *
    clear hf hv hok hp hm hb0 ho1 ho2 m0 m1 m2 m3 n0 n1
    go_enter Tryz.func4, Tryz.ntmps4
    go_wp2_with fail
    refine (awake14_any _).mono ?_
    rintro e w1 ⟨rfl, hb1⟩
    obtain ⟨⟨m0, m1, m2, m3, n0, n1⟩, hbw⟩ := KB.out w1 hb1
    have HK := hid hbw
    clear hb1 hbw
    go_wp2_with fail
    refine (CF.out _ HK.out).mono ?_
    rintro e w2 ⟨rfl, hb2⟩
    have HK := hid (blCall HK.out hb2)
    clear hb2 m0 m1 m2 m3 n0 n1
    go_wp2_with fail
    refine (awake14_any _).mono ?_
    rintro e w3 ⟨rfl, hb3⟩
    have HK := hid (blCall HK.out hb3)
    clear hb3
    go_wp2_with fail
    go_ret
    exact ⟨rfl, HK.out⟩
  | true =>
  rw [hf] at CF
  obtain ⟨hct, hpl, hml, _, _⟩ := few14_facts hf
  have CO : Hid (∀ W, Below w.heap.size w W → Calls Tryz.prog 18 #[.agg #[.int .i64 t.kind, .string t.text, .int .i64 t.cols, .slice A t.kids.length cap], .agg #[.slice Ap p.length cp, .slice Am m.length cm]] W (BetV W (ofS t p m))) := fun W hW => rOf_any t p m A Ap Am cap cp cm W (hv.below hW hW.size) hok.2.2 (hp.below hW hW.size) (hm.below hW hW.size) (by omega)
  obtain ⟨⟨⟨rr, ra, rb⟩, se⟩, hof⟩ : ∃ OF, ofS t p m = OF := ⟨_, rfl⟩
  rw [hof] at CO
  by_cases hse : se = 0
  rotate_left
  · have hse' : (se != 0) = true := by simp [hse]
    obtain ⟨tk, tx, tc, ts⟩ := t
    simp only [Tree.kind, Tree.text, Tree.cols, Tree.kids] at *
    clear hf hv hok hp hm hb0 ho1 ho2 m0 m1 m2 m3 n0 n1 hof hse hct hpl hml
    go_enter Tryz.func4, Tryz.ntmps4
    go_wp2_with fail
    refine (awake14_any _).mono ?_
    rintro e w1 ⟨rfl, hb1⟩
    obtain ⟨⟨m0, m1, m2, m3, n0, n1⟩, hbw⟩ := KB.out w1 hb1
    have HK := hid hbw
    have HT := hid hb1
    clear hb1 hbw
    go_wp2_with fail
    refine (CF.out _ HK.out).mono ?_
    rintro e w2 ⟨rfl, hb2⟩
    have HT := hid (blCall HT.out hb2)
    clear hb2 m0 m1 m2 m3 n0 n1
    obtain ⟨⟨m0, m1, m2, m3, n0, n1⟩, hbw⟩ := KB.out w2 HT.out
    have HK := hid hbw
    clear hbw
    go_wp2_with fail
    refine (CO.out _ HK.out).mono ?_
    rintro e w3 ⟨v3, rfl, hr3, hb3⟩
    simp only at hr3
    obtain ⟨Ar, cr, rfl⟩ := hr3.form
    clear hr3
    have HK := hid (blCall HK.out hb3)
    clear hb3 m0 m1 m2 m3 n0 n1
    go_wp2_with fail
    go_ret
    exact ⟨rfl, blAlloc HK.out _⟩
  subst hse
  obtain ⟨ops, hins, hap, hol⟩ := reinsert hof
  obtain ⟨hvt, hrl, hr0, hr1, hr2⟩ := of_facts hof (by omega) (by omega)
  obtain ⟨l, hl⟩ : ∃ l, (itemsR t rr ra rb).1 = l := ⟨_, rfl⟩
  have hlc : countsS l ≤ 1000 := by rw [← hl]; exact items_count hvt rr ra rb
  have hll : l.length ≤ countsS l := countsS_len2 l
  have CI : Hid (∀ W Ar cr, Below w.heap.size w W → IntsR W (Lt W.heap.size) rr (.slice Ar rr.length cr) → Calls Tryz.prog 19 #[.agg #[.int .i64 t.kind, .string t.text, .int .i64 t.cols, .slice A t.kids.length cap], .agg #[.slice Ar rr.length cr, .int .i64 ra, .int .i64 rb]] W (ItemsRes W (itemsR t rr ra rb))) := fun W Ar cr hW h => rItems_any t rr ra rb A Ar cap cr W (hv.below hW hW.size) hok (by omega) h (in64_small (by omega)) (in64_small (by omega))
  have CN : Hid (∀ W An cn, Below w.heap.size w W → SliceR treeE W (Lt W.heap.size) l (.slice An l.length cn) → Calls Tryz.prog 20 #[.agg #[.int .i64 t.kind, .string t.text, .int .i64 t.cols, .slice A t.kids.length cap], .agg #[.slice Ap p.length cp, .slice Am m.length cm], .slice An l.length cn] W (RecF W (cinsertS t p m l))) := fun W An cn hW h => cInsert_any t p m l A Ap Am An cap cp cm cn W (hv.below hW hW.size) hok (by omega) (hp.below hW hW.size) (hm.below hW hW.size) (by omega) (by omega) h (by omega) (by omega)
  have CA : Hid (∀ W Ao co, Below w.heap.size w W → SliceR opE W (Lt W.heap.size) ops (.slice Ao ops.length co) → Calls Tryz.prog 21 #[.agg #[.int .i64 t.kind, .string t.text, .int .i64 t.cols, .slice A t.kids.length cap], .slice Ao ops.length co] W (ApplyAllP W (applyAllS t ops))) := fun W Ao co hW h => eAll_any t ops A Ao cap co W (hv.below hW hW.size) hok (by omega) h (by omega)
  have CE : Hid (∀ W v, Below w.heap.size w W → SliceR treeE W (Lt W.heap.size) t.kids v → Calls Tryz.prog 22 #[.agg #[.int .i64 t.kind, .string t.text, .int .i64 t.cols, v], .agg #[.int .i64 t.kind, .string t.text, .int .i64 t.cols, .slice A t.kids.length cap]] W fun e w' => e = .returned (.bool true) ∧ Below W.heap.size W w') := fun W v hW h => by
    have h9 := equal_any t t W v _ h (hv.below hW hW.size)
    rwa [(eqS_iff t t).2 rfl] at h9
  rw [hl] at hins
  obtain ⟨⟨l', le⟩, hle⟩ : ∃ LE, itemsR t rr ra rb = LE := ⟨_, rfl⟩
  rw [hle] at CI hl
  simp only at hl
  subst hl
  rw [hins] at CN
  rw [hap] at CA
  obtain ⟨pos, hpos⟩ : ∃ pos, rr ++ [ra + (l'.length : Int)] = pos := ⟨_, rfl⟩
  rw [hpos] at CN
  have HOL := hid hol
  obtain ⟨tk, tx, tc, ts⟩ := t
  simp only [Tree.kind, Tree.text, Tree.cols, Tree.kids] at CF CO CI CN CA CE KB m0 m1 m2 m3 n0 n1 hW0 ⊢
  clear hf hv hok hp hm hb0 ho1 ho2 hof hct hpl hml hins hap hol hvt hrl hr0 hr1 hr2 hlc hll hle hpos
  go_enter Tryz.func4, Tryz.ntmps4
  go_wp2_with fail
  refine (awake14_any _).mono ?_
  rintro e w1 ⟨rfl, hb1⟩
  clear m0 m1 m2 m3 n0 n1 hW0
  obtain ⟨⟨m0, m1, m2, m3, n0, n1⟩, hbw⟩ := KB.out w1 hb1
  have HK := hid hbw
  have HT := hid hb1
  clear hb1 hbw
  go_wp2_with fail
  refine (CF.out _ HK.out).mono ?_
  rintro e w2 ⟨rfl, hb2⟩
  have HT := hid (blCall HT.out hb2)
  clear hb2 m0 m1 m2 m3 n0 n1
  obtain ⟨⟨m0, m1, m2, m3, n0, n1⟩, hbw⟩ := KB.out w2 HT.out
  have HK := hid hbw
  clear hbw
  go_wp2_with fail
  refine (CO.out _ HK.out).mono ?_
  rintro e w3 ⟨v3, rfl, hr3, hb3⟩
  simp only at hr3
  obtain ⟨Ar, cr, rfl⟩ := hr3.form
  have HT := hid (blCall HT.out hb3)
  have HR3 : Hid (IntsR w3 (Lt w3.heap.size) rr (.slice Ar rr.length cr)) := hid (hr3.keep (fun _ _ => rfl) (fun k hk => hk.2))
  clear hb3 hr3 m0 m1 m2 m3 n0 n1
  go_upto_region 4 with fail
  generalize hX : World.alloc w3 _ = X
  have hbx : Below w3.heap.size w3 X := by rw [← hX]; exact blA _ _
  have hs : HasObj X w3.heap.size (.cells #[.slice Ar rr.length cr, .int .i64 ra, .int .i64 rb] 46) := by rw [← hX]; exact HasObj.at0 _ _
  have HT := hid (blCall HT.out hbx)
  have HR3 := hid (HR3.out.below hbx hbx.size)
  obtain ⟨⟨m0, m1, m2, m3, n0, n1⟩, hbw⟩ := KB.out X HT.out
  have HK := hid hbw
  have s0 := hs.cell 0
  have s1 := hs.cell 1
  have s2 := hs.cell 2
  simp only [List.getElem?_toArray, List.getElem?_cons_zero, List.getElem?_cons_succ] at s0 s1 s2
  clear hX hbx hs hbw
  go_wp2_with fail
  refine (CI.out _ _ _ HK.out HR3.out).mono ?_
  rintro e w4 ⟨v4, rfl, hr4, hb4⟩
  simp only at hr4
  obtain ⟨An, cn, rfl⟩ := hr4.form
  have HT := hid (blCall HT.out hb4)
  have HR4 := hid hr4
  clear hb4 hr4 m0 m1 m2 m3 n0 n1 s0 s1 s2
  obtain ⟨⟨m0, m1, m2, m3, n0, n1⟩, hbw⟩ := KB.out w4 HT.out
  have HK := hid hbw
  clear hbw
  go_wp2_with fail
  refine (CN.out _ _ _ HK.out HR4.out).mono ?_
  intro e w5 hrec
  obtain ⟨Ao, co, Apb, cpb, Amb, cmb, Aap, cap9, Aam, cam, rfl, r1, _, _, _, _, hb5⟩ := RecF.weak hrec
  simp only [List.length_nil] at r1 ⊢
  have HT := hid (blCall HT.out hb5)
  have HR5 := hid r1
  clear hrec hb5 r1 m0 m1 m2 m3 n0 n1
  go_upto_region 8 with fail
  generalize hX : World.alloc w5 _ = Y
  have hbx : Below w5.heap.size w5 Y := by rw [← hX]; exact blA _ _
  have hs : HasObj Y w5.heap.size (.cells #[.slice Ao ops.length co, .slice Apb p.length cpb, .slice Amb m.length cmb, .slice Aap pos.length cap9, .slice Aam 0 cam] 36) := by rw [← hX]; exact HasObj.at0 _ _
  have HT := hid (blCall HT.out hbx)
  have HR5 := hid (HR5.out.below hbx hbx.size)
  obtain ⟨⟨m0, m1, m2, m3, n0, n1⟩, hbw⟩ := KB.out Y HT.out
  have HK := hid hbw
  have s0 := hs.cell 0
  simp only [List.getElem?_toArray, List.getElem?_cons_zero, List.getElem?_cons_succ] at s0
  clear hX hbx hs hbw
  go_wp2_with fail
  refine (CA.out _ _ _ HK.out HR5.out).mono ?_
  rintro e w6 ⟨v6, i6, rfl, hr6, hb6⟩
  simp only [Tree.kind, Tree.text, Tree.cols, Tree.kids] at hr6 ⊢
  obtain ⟨A6, c6, rfl⟩ := hr6.form
  have HT := hid (blCall HT.out hb6)
  have HR6 := hid hr6
  clear hb6 hr6 m0 m1 m2 m3 n0 n1 s0
  go_upto_region 9 with fail
  generalize hX : World.alloc w6 _ = Z
  have hbx : Below w6.heap.size w6 Z := by rw [← hX]; exact blA _ _
  have hs : HasObj Z w6.heap.size (.cells #[.int .i64 tk, .string tx, .int .i64 tc, .slice A6 ts.length c6] 24) := by rw [← hX]; exact HasObj.at0 _ _
  have HT := hid (blCall HT.out hbx)
  have HR6 := hid (HR6.out.below hbx hbx.size)
  obtain ⟨⟨m0, m1, m2, m3, n0, n1⟩, hbw⟩ := KB.out Z HT.out
  have HK := hid hbw
  have s0 := hs.cell 0
  have s1 := hs.cell 1
  have s2 := hs.cell 2
  have s3 := hs.cell 3
  simp only [List.getElem?_toArray, List.getElem?_cons_zero, List.getElem?_cons_succ] at s0 s1 s2 s3
  clear hX hbx hs hbw
  go_wp2_with fail
  refine (CE.out _ _ HK.out HR6.out).mono ?_
  rintro e w7 ⟨rfl, hb7⟩
  have HK := hid (blCall HK.out hb7)
  clear hb7 m0 m1 m2 m3 n0 n1 s0 s1 s2 s3
  go_wp2_with fail
  go_ret
  exact ⟨rfl, HK.out⟩
end Go.Proofs.YtbjcioknfjofkaaGreat
