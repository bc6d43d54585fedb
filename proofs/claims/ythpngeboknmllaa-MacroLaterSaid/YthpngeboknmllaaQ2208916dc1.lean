/- Texts put together. -/
import Derived.Test.YthpngeboknmllaaQba0552adfa
import Derived.Laws.EntriesVeiled
set_option linter.unusedVariables false
set_option linter.unusedSimpArgs false
set_option maxRecDepth 100000
namespace Go.Proofs.Ythpngeboknmllaa
open Go.RowKit Go.WideMaps Go.ChangeMaps
def expF (g:Option (Int × Tree)) (args:List Tree):Tree × Int:=match g with
 | none=>(zeroT,8)
 | some (P,t)=>if (args.length:Int)≠P then (zeroT,13) else fillF t args
set_option maxHeartbeats 1000000 in
theorem tnew_any (w:World):Calls Try.prog 14 #[] w fun e w'=>∃ tb bm,e = .returned (.pointer (some ⟨tb,0,none⟩))∧TabAt w' tb bm w'.heap.size (.slice none 0 0) [] (fun _=>none)∧w.heap.size≤tb∧w.heap.size≤bm∧Below w.heap.size w w':=by
 have hm:=@run_makeMap Try.prog
 go_enter Try.func14,Try.ntmps14
 go_wp2
 go_ret
 refine ⟨_,w.heap.size,rfl,⟨by simp,by simp,by simp;omega,Nat.le_refl _,HasObj.at1 _ _ _,OwnE.nil _ _,fun _=>none,0,(MapF.made w).keep ((blA (w.alloc (.map #[] 0)) _).block _ (by simp)),Nat.le_refl _,fun p=>rfl⟩,by simp,Nat.le_refl _,blAlloc (blA _ _) _⟩
set_option maxHeartbeats 4000000 in
theorem expand_any (tb bm b : Nat) (vn : Value) (names : List ByteArray) (G : List UInt8 → Option (Int × Tree)) (s : ByteArray) (hs : s.size ≤ maxLen) (args : List Tree) (Aa : Option Addr) (ca : Nat) (w : World) (h : TabAt w tb bm b vn names G) (hva : SliceR treeE w (Lt w.heap.size) args (.slice Aa args.length ca)) (hca : ∀ a ∈ args, countS a ≤ 1000000) (hal : args.length ≤ 1000) :
    Calls Try.prog 8 #[.pointer (some ⟨tb, 0, none⟩), .string s, .slice Aa args.length ca] w (FillP w (expF (G s.data.toList) args)) := by
  obtain ⟨W0, hW0⟩ : ∃ W0, w.alloc (.cells #[.int .i64 0, .string ⟨#[]⟩, .int .i64 0, .slice none 0 0] 31) = W0 := ⟨_, rfl⟩
  have hb0 : Below w.heap.size w W0 := by rw [← hW0]; exact blA _ _
  have HB := hid hb0
  have HZ : Hid (HasObj W0 w.heap.size (.cells #[.int .i64 0, .string ⟨#[]⟩, .int .i64 0, .slice none 0 0] 31)) := by show HasObj _ _ _; rw [← hW0]; exact HasObj.at0 _ _
  have h0 := h.below hb0
  obtain ⟨_, _, _, _, ht, _, F, n, hF, _, hG⟩ := h0
  have m1 := ht.cell 1
  simp only [List.getElem?_toArray, List.getElem?_cons_zero, List.getElem?_cons_succ] at m1
  have lk := hF.look s hs
  have hG := hG s.data.toList
  have HVA := hid (hva.below hb0 hb0.size)
  have HCA := hid hca
  generalize G s.data.toList = g at *
  obtain ⟨RES, hRES⟩ : ∃ RES, expF g args = RES := ⟨_, rfl⟩
  rw [hRES]
  cases g with
  | none =>
    have HF : Hid (RES = (zeroT, 8)) := by show _ = _; rw [← hRES]; rfl
    simp only at hG
    rw [hG] at lk
    simp only [Option.getD_none, Option.isSome_none, tmplZ] at lk
    clear h hva hca hb0 ht hF hG hRES
    go_enter Try.func8, Try.ntmps8
    go_upto_region 4 with (first
      | (refine sR 47 8 20 (HasObj.at0 _ _) ?_)
      | fail)
    generalize hX : World.setRow _ _ _ = X
    have hbx := putB hX
    have HZ := hid (HZ.out.below hbx)
    have HB := hid (HB.out.trans (hbx.mono HB.out.size))
    clear hX hbx lk m1 hW0
    go_wp2_with (first
      | (refine sR 31 6 24 HZ.out ?_)
      | fail)
    refine rtR Try.results8 Try.underlying31 (.int .i64 8) (HZ.out.row _) ?_
    rw [HF.out]
    exact ⟨_, rfl, SliceR.nil_ 0 (Nat.zero_le _) none, below_setRowB HB.out (Nat.le_refl _) _, zero_ok, by simp [zeroT, countS, countsS]⟩
  | some r =>
    obtain ⟨P, t⟩ := r
    obtain ⟨v, e1, A, cap, rfl, hkt, hok, hct⟩ := hG
    rw [e1] at lk
    simp only [Option.getD_some, Option.isSome_some] at lk
    have HE : Hid (RES = if (args.length : Int) ≠ P then (zeroT, 13) else fillF t args) := by show _ = _; rw [← hRES]; rfl
    have HKT := hid (hkt.keep (fun _ _ => rfl) (fun k hk => hk.1) : SliceR treeE W0 (Lt W0.heap.size) t.kids (.slice A t.kids.length cap))
    have HOK := hid hok
    have HCT := hid hct
    clear h hva hca hb0 ht hF hRES e1 hkt hok hct
    go_enter Try.func8, Try.ntmps8
    go_upto_region 4 with (first
      | (refine sR 47 8 20 (HasObj.at0 _ _) ?_)
      | fail)
    generalize hX : World.setRow _ _ _ = X
    have hbx := putB hX
    have hox := put0 hX
    have HZ := hid (HZ.out.below hbx)
    have HB := hid (HB.out.trans (hbx.mono HB.out.size))
    have HBW := hid HZ.out.lt
    have CF := hid (fillTop_any t args A Aa cap ca X (HKT.out.below hbx hbx.size) HOK.out HCT.out (HVA.out.below hbx hbx.size) HCA.out hal)
    have k0 := hox.cell 0
    have k1 := hox.cell 1
    have k2 := hox.cell 2
    have k3 := hox.cell 3
    have k4 := hox.cell 4
    simp only [List.getElem?_toArray, List.getElem?_cons_zero, List.getElem?_cons_succ] at k0 k1 k2 k3 k4
    clear hX hbx lk m1 hox HKT HOK HCT HVA HCA hW0
    by_cases hP : (args.length : Int) = P
    rotate_left
    · have e5 : ((args.length : Int) != P) = true := by simpa using hP
      have HF := hid (HE.out.trans (if_pos hP))
      clear hP k1 k2 k3 k4 CF
      go_wp2_with (first
        | (refine sR 31 6 30 HZ.out ?_)
        | fail)
      refine rtR Try.results8 Try.underlying31 (.int .i64 13) (HZ.out.row _) ?_
      rw [HF.out]
      exact ⟨_, rfl, SliceR.nil_ 0 (Nat.zero_le _) none, below_setRowB HB.out (Nat.le_refl _) _, zero_ok, by simp [zeroT, countS, countsS]⟩
    have e5 : ((args.length : Int) != P) = false := by simpa using hP
    have HF := hid (HE.out.trans (if_neg (by simpa using hP)))
    clear hP
    generalize fillF t args = r9 at *
    go_wp2_with fail
    refine CF.out.mono ?_
    rintro e wk ⟨vk, rfl, hvk, hbk, hok, hck⟩
    obtain ⟨A8, c8, rfl⟩ := hvk.form
    have HZ := hid (HZ.out.below hbk)
    have HB := hid (HB.out.trans (hbk.mono HB.out.size))
    have HVK := hid hvk
    have HO9 := hid (And.intro hok hck)
    clear hvk hbk hok hck k0 k1 k2 k3 k4 CF
    go_wp2_with (first
      | (refine sR 31 6 35 HZ.out ?_)
      | fail)
    refine rtR Try.results8 Try.underlying31 (.int .i64 r9.2) (HZ.out.row _) ?_
    rw [HF.out]
    exact ⟨_, rfl, HVK.out.keep (fun p hp => World.cell?_of_block (setRow_other _ _ _ _ (by have h9 := hp.1; have := HBW.out; omega))) (fun q hq => ⟨by have h9 := hq.1; have := HBW.out; omega, by rw [size_setRow]; exact hq.2⟩), below_setRowB HB.out (Nat.le_refl _) _, HO9.out.1, HO9.out.2⟩
end Go.Proofs.Ythpngeboknmllaa
