/- Texts put together. -/
import Derived.Test.YthpngeboknmllaaQ19417c32a3
set_option linter.unusedVariables false
set_option linter.unusedSimpArgs false
set_option maxRecDepth 100000
namespace Go.Proofs.Ythpngeboknmllaa
open Go.RowKit
def CopyRes (w:World) (t:Tree) (e:Ending) (w':World):Prop :=
 ∃ v,e = .returned (.agg #[.int .i64 t.kind,.string t.text,.int .i64 t.cols,v])∧SliceR treeE w' (fun k=>w.heap.size≤k∧k < w'.heap.size) t.kids v∧Below w.heap.size w w'
theorem countS_kids (t:Tree):countS t = 1 + countsS t.kids:=by cases t;rfl
theorem ptrInfo:(Try.prog.info? 65).map (fun i=>(i.zero,i.size,i.bytes)) = some (some (.pointer none),1,8):=by kernel_rfl
theorem cell_lt {w:World} {a:Addr} {v:Value} (h:w.cell? a = some v):a.block < w.heap.size:=by
 rcases Nat.lt_or_ge a.block w.heap.size with h1 | h1
 ·exact h1
 ·simp [World.cell?,Array.getElem?_eq_none h1] at h
theorem one_reads (w:World) (x:Value) (e:TypeId) (g:Nat) (hg:g = w.heap.size):Reads (w.alloc (.cells #[x] e)) (fun _=>True) (some ⟨g,0,none⟩) [x]:=fun _=>⟨g,0,rfl,trivial,fun j u hu=>by
 subst hg
 rw [Nat.zero_add,World.cell?_alloc_new]
 simpa using hu⟩
theorem pushed_cell {wr w':World} {o:Obj} {row:Option Nat} {a:Addr} {v:Value} (h4:(wr.alloc o).grownBy w' row) (hc:wr.cell? a = some v) (hx:some a.block≠row):w'.cell? a = some v :=
 (World.cell?_of_block (h4.block a.block (by have:=cell_lt hc;simp;omega) hx)).trans (((below_allocR wr o).cell (cell_lt hc)).trans hc)
theorem pushed_own {wr:World} {o:Obj} {v v':Value} {a:Addr} {u:Value} (h5:v'.ownBlock = v.ownBlock∨v'.ownBlock = some (wr.alloc o).heap.size) (hc:wr.cell? a = some u) (hx:some a.block≠v.ownBlock):some a.block≠v'.ownBlock:=by
 rcases h5 with h | h
 ·rw [h];exact hx
 ·rw [h];intro e;injection e with e;have:=cell_lt hc;simp at e;omega
set_option maxHeartbeats 2000000 in
theorem deepNode_any (t : Tree) (A : Option Addr) (cap : Nat) (w : World) (hv : SliceR treeE w (Lt w.heap.size) t.kids (.slice A t.kids.length cap)) (hok : NodeOk t) (hct : countS t ≤ 1000000) :
    Calls Try.prog 18 #[.agg #[.int .i64 t.kind, .string t.text, .int .i64 t.cols, .slice A t.kids.length cap]] w (CopyRes w t) := by
  have HS := hid (DI.start w 65 31 t A cap hv hok _ rfl)
  have HCT := hid hct
  clear hv hok hct
  go_enter Try.func18, Try.ntmps18
  go_wp2_with fail
  generalize (((w.alloc (.cells #[.int .i64 t.kind, .string t.text, .int .i64 t.cols, .slice A t.kids.length cap] 31)).alloc (.cells #[.int .i64 0, .string ⟨#[]⟩, .int .i64 0, .slice none 0 0] 31)).alloc (.cells #[.pointer (some ⟨w.heap.size, 0, none⟩)] 65)) = W0 at *
  go_loopg [3] (countS t) (fun k lv0 wr => ∃ (lv : Value) (P : List PendT), lv = lv0 ∧ DI w wr 65 31 lv t P P ∧ pcnt P = k ∧ k ≤ 1000000)
  case atStart => exact ⟨_, _, rfl, HS.out, by simp [pcnt], HCT.out⟩
  case round =>
    obtain ⟨lv, P, rfl, hd, hk, hkm⟩ := hrel
    rcases List.eq_nil_or_concat P with rfl | ⟨Q, x, rfl⟩
    · obtain ⟨v, hn, hr⟩ := hd.result
      obtain ⟨A1, c1, rfl⟩ := hr.form
      have hlv : ∃ B1 d1, lv = .slice B1 0 d1 := by
        rcases hd.stack.2 with ⟨rfl, _⟩ | ⟨g, cap, cur, rfl, _⟩
        · exact ⟨_, _, rfl⟩
        · exact ⟨_, _, rfl⟩
      obtain ⟨B1, d1, rfl⟩ := hlv
      obtain ⟨n0, n1, n2, n3⟩ := hn
      simp only [Nat.zero_add] at n1 n2 n3
      have hres := hd.res
      have hlt : w.heap.size + 1 < wr.heap.size := by have := hd.box; omega
      have HB := hid hd.below
      have HR := hid hr
      have r0 : wr.cell? ⟨w.heap.size + 1, 0, none⟩ = some (.int .i64 0) ∧ wr.frozen? ⟨w.heap.size + 1, 0, none⟩ = false := by constructor <;> simp [World.cell?, World.frozen?, hres]
      have r1 : wr.cell? ⟨w.heap.size + 1, 1, none⟩ = some (.string ⟨#[]⟩) ∧ wr.frozen? ⟨w.heap.size + 1, 1, none⟩ = false := by constructor <;> simp [World.cell?, World.frozen?, hres]
      have r2 : wr.cell? ⟨w.heap.size + 1, 2, none⟩ = some (.int .i64 0) ∧ wr.frozen? ⟨w.heap.size + 1, 2, none⟩ = false := by constructor <;> simp [World.cell?, World.frozen?, hres]
      have r3 : wr.cell? ⟨w.heap.size + 1, 3, none⟩ = some (.slice none 0 0) ∧ wr.frozen? ⟨w.heap.size + 1, 3, none⟩ = false := by constructor <;> simp [World.cell?, World.frozen?, hres]
      obtain ⟨r0, f0⟩ := r0
      obtain ⟨r1, f1⟩ := r1
      obtain ⟨r2, f2⟩ := r2
      obtain ⟨r3, f3⟩ := r3
      clear hd hres hr hk
      go_wp2_with fail
      have q0 : ((((wr.setCell ⟨w.heap.size + 1, 0, none⟩ (.int .i64 t.kind)).setCell ⟨w.heap.size + 1, 1, none⟩ (.string t.text)).setCell ⟨w.heap.size + 1, 2, none⟩ (.int .i64 t.cols)).setCell ⟨w.heap.size + 1, 3, none⟩ (.slice A1 t.kids.length c1)).cell? ⟨w.heap.size + 1, 0, none⟩ = some (.int .i64 t.kind) := by go_simp
      have q1 : ((((wr.setCell ⟨w.heap.size + 1, 0, none⟩ (.int .i64 t.kind)).setCell ⟨w.heap.size + 1, 1, none⟩ (.string t.text)).setCell ⟨w.heap.size + 1, 2, none⟩ (.int .i64 t.cols)).setCell ⟨w.heap.size + 1, 3, none⟩ (.slice A1 t.kids.length c1)).cell? ⟨w.heap.size + 1, 1, none⟩ = some (.string t.text) := by go_simp
      have q2 : ((((wr.setCell ⟨w.heap.size + 1, 0, none⟩ (.int .i64 t.kind)).setCell ⟨w.heap.size + 1, 1, none⟩ (.string t.text)).setCell ⟨w.heap.size + 1, 2, none⟩ (.int .i64 t.cols)).setCell ⟨w.heap.size + 1, 3, none⟩ (.slice A1 t.kids.length c1)).cell? ⟨w.heap.size + 1, 2, none⟩ = some (.int .i64 t.cols) := by go_simp
      have q3 : ((((wr.setCell ⟨w.heap.size + 1, 0, none⟩ (.int .i64 t.kind)).setCell ⟨w.heap.size + 1, 1, none⟩ (.string t.text)).setCell ⟨w.heap.size + 1, 2, none⟩ (.int .i64 t.cols)).setCell ⟨w.heap.size + 1, 3, none⟩ (.slice A1 t.kids.length c1)).cell? ⟨w.heap.size + 1, 3, none⟩ = some (.slice A1 t.kids.length c1) := by go_simp
      have hb4 := (((HB.out.setCell (p := ⟨w.heap.size + 1, 0, none⟩) (Nat.le_succ _) (.int .i64 t.kind)).setCell (p := ⟨w.heap.size + 1, 1, none⟩) (Nat.le_succ _) (.string t.text)).setCell (p := ⟨w.heap.size + 1, 2, none⟩) (Nat.le_succ _) (.int .i64 t.cols)).setCell (p := ⟨w.heap.size + 1, 3, none⟩) (Nat.le_succ _) (.slice A1 t.kids.length c1)
      have hr4 : SliceR treeE ((((wr.setCell ⟨w.heap.size + 1, 0, none⟩ (.int .i64 t.kind)).setCell ⟨w.heap.size + 1, 1, none⟩ (.string t.text)).setCell ⟨w.heap.size + 1, 2, none⟩ (.int .i64 t.cols)).setCell ⟨w.heap.size + 1, 3, none⟩ (.slice A1 t.kids.length c1)) (fun k => w.heap.size ≤ k ∧ k < ((((wr.setCell ⟨w.heap.size + 1, 0, none⟩ (.int .i64 t.kind)).setCell ⟨w.heap.size + 1, 1, none⟩ (.string t.text)).setCell ⟨w.heap.size + 1, 2, none⟩ (.int .i64 t.cols)).setCell ⟨w.heap.size + 1, 3, none⟩ (.slice A1 t.kids.length c1)).heap.size) t.kids (.slice A1 t.kids.length c1) :=
        SliceR.keep HR.out (fun q hq => by rw [set_far _ hq.2.2.1, set_far _ hq.2.2.1, set_far _ hq.2.2.1, set_far _ hq.2.2.1]) (fun k hk => ⟨hk.1, by have := hk.2.1; simpa [World.setCell] using this⟩)
      generalize ((((wr.setCell ⟨w.heap.size + 1, 0, none⟩ (.int .i64 t.kind)).setCell ⟨w.heap.size + 1, 1, none⟩ (.string t.text)).setCell ⟨w.heap.size + 1, 2, none⟩ (.int .i64 t.cols)).setCell ⟨w.heap.size + 1, 3, none⟩ (.slice A1 t.kids.length c1)) = W5 at *
      exact bodyPost_ret (v := .agg #[.int .i64 t.kind, .string t.text, .int .i64 t.cols, .slice A1 t.kids.length c1]) (by simp [results, Try.results18, go_sem, q0, q1, q2, q3]) rfl ⟨_, rfl, hr4, hb4⟩
    · rw [List.concat_eq_append] at hd hk
      obtain ⟨g, cp, rfl, hg1, hg2, hcp1, hcp2, hct, hst⟩ := hd.stack.top
      have hfz := hd.frz x (by simp)
      have hx := hd.pend x (by simp)
      obtain ⟨xg, xo, xt⟩ := x
      obtain ⟨⟨hx1, hx2, hx3, hx4⟩, hal, hxok, v, ⟨n0, n1, n2, n3⟩, hxv⟩ := hx
      dsimp only [ptrV] at hfz hx1 hx2 hx3 hx4 hal hxok n0 n1 n2 n3 hxv hct
      obtain ⟨A1, c1, rfl⟩ := hxv.form
      have hlen : Q.length ≤ 1000000 := by have := pcnt_len (Q ++ [(xg, xo, xt)]); simp at this; omega
      have hkl : xt.kids.length ≤ 1000000 := by
        have h1 := kids_le_count xt
        rw [pcnt_append] at hk
        simp only [pcnt] at hk
        omega
      have HD := hid hd
      have HST := hid hst
      have HXV := hid hxv
      have HK := hid hk
      have HAL := hid hal
      have HOK := hid hxok
      have HX4 := hid hx4
      clear hd hst hxv hk hal hxok hx4
      have i0 : (0 : Int) ≤ (Q.length : Int) := by omega
      have i1 : (Q.length : Int) < (Q.length : Int) + 1 := by omega
      have i2 : (Q.length : Int) ≤ (cp : Int) := by omega
      have i3 : decide ((0 : Int) < (Q.length : Int) + 1) = true := by rw [decide_eq_true_eq]; omega
      rcases Nat.eq_zero_or_pos xt.kids.length with hz | hz
      · have hz' := hid hz
        rw [hz] at n3
        go_wp2_with (refine wpList_copy_none rfl (.tmp 41) (.tmp 42) 23 rfl 31 4 Try.underlying23 nodeSize A1 c1 0 rfl rfl ?_)
        go_loop [3, 49] (fun l i => l = .slice (some ⟨g, 0, none⟩) Q.length cp ∧ i = .int .i64 0) (fun _ _ => 0)
        case atStart => exact ⟨rfl, rfl⟩
        case round =>
          obtain ⟨rfl, rfl⟩ := hrel
          have hkz : xt.kids = [] := List.eq_nil_of_length_eq_zero hz'.out
          have hpk : pcnt Q < gk := by have := HK.out; rw [pcnt_append] at this; simp only [pcnt] at this; have := kids_le_count xt; omega
          go_wp2_with fail
          go_roundg (pcnt Q)
          case measure => exact hpk
          case rel =>
            refine ⟨_, Q, rfl, ?_, rfl, by omega⟩
            have h := HD.out.node (W4 := wr.setCell ⟨xg, xo + 3, none⟩ (.slice none 0 0)) (lv' := .slice (some ⟨g, 0, none⟩) Q.length cp) (g' := wr.heap.size) (cap' := 0) (A' := none) (fun q _ hne => World.cell?_setCell_other _ _ _ _ (Ne.symm hne)) (ownsRow_setCell_other HST.out (by intro e; exact HX4.out e.symm) _) rfl (HD.out.below.setCell hx1 _) (by simp [World.setCell]) (fun q _ => World.frozen?_setCell _ _ _ _) (by rw [hkz]; exact fun h => absurd h (Nat.lt_irrefl 0)) (Below.heap_setCell wr _ _ _ (by exact Ne.symm hx3)) (by rw [hkz]; exact World.cell?_setCell_same _ _ _ n3) (by rw [hkz]; exact Nat.le_refl _) (Nat.zero_le _) (Nat.le_refl _) (by rw [hkz]; exact fun h => absurd h (Nat.lt_irrefl 0)) (by rw [hkz]; exact fun i hi => absurd hi (Nat.not_lt_zero _))
            rw [hkz] at h
            simpa [kidsP, kidsF] using h
      · obtain ⟨A2, c2, cs, e2, hcc1, hcc2, hrd, hls⟩ := HXV.out
        injection e2 with e3 e4 e5
        subst e3
        subst e5
        have hcn : cs.length = xt.kids.length * 4 := by have := hls.len; simpa [treeE, Nat.mul_comm] using this
        obtain ⟨ad, rfl⟩ := hrd.some_ (by omega)
        have hadl : ad.block < w.heap.size := by
          obtain ⟨g0, o0, h1, h2, _⟩ := hrd (by omega)
          cases h1; exact h2
        have hrc := hid (hrd.add ad rfl)
        have HLS := hid hls
        have h1c := hid hls.one
        have hcn' := hid hcn
        have hz2 := hid hz
        have i4 : decide ((0 : Int) < (xt.kids.length : Int)) = true := by rw [decide_eq_true_eq]; omega
        obtain ⟨ni, ni1, ni2, ni3, ni4⟩ := nodeInfo'
        clear hrd hls hcn hz
        go_wp2_with first
          | (refine wpList_make_full _ rfl (.tmp 34) (.tmp 34) 23 rfl (wr.setCell ⟨xg, xo + 3, none⟩ (.slice none 0 0)).heap.size 31 ni _ 4 Try.underlying23 ni1 ni2 ni3 .i64 .i64 _ _ xt.kids.length rfl rfl rfl rfl (by rw [ni4]; omega) (by simp [maxLen]; omega) (Nat.le_refl _) ?_
             intro WM hWM1 hWM2
             obtain ⟨m3, mf, cur, HCUR, HCS, HSR⟩ := made_facts (c := 0) HD.out.below hx1 hx2 n3 hfz rfl hWM1 hWM2 hcn'.out hadl hrc.out
             have HM1 := hid hWM1
             have HM2 := hid hWM2
             have HLT : Hid (wr.heap.size < WM.heap.size) := by
               rcases HM1.out.2 with ⟨h, _⟩ | ⟨g0, c0, cur, e1, k2, k3, k4⟩
               · cases h
               · have h9 := (Array.getElem?_eq_some_iff.1 k3).1
                 have h8 : (wr.setCell ⟨xg, xo + 3, none⟩ (.slice none 0 0)).heap.size = wr.heap.size := by simp [World.setCell]
                 show wr.heap.size < WM.heap.size
                 omega
             clear hWM1 hWM2)
          | (refine wpList_copy_all rfl (.tmp 41) (.tmp 42) 23 rfl 31 4 Try.underlying23 nodeSize wr.heap.size xt.kids.length ad c1 rfl rfl cur 31 cs HCUR.out hcn'.out HSR.out HCS.out h1c.out ?_
             obtain ⟨W4, hW4⟩ : ∃ W4, W4 = (WM.setCell ⟨xg, xo + 3, none⟩ (.slice (some ⟨wr.heap.size, 0, none⟩) xt.kids.length xt.kids.length)).setRow wr.heap.size cs.toArray := ⟨_, rfl⟩
             rw [← hW4]
             obtain ⟨c4, hd4⟩ := HD.out.copied (c1 := 0) (lv' := .slice (some ⟨g, 0, none⟩) Q.length cp) HST.out rfl n3 HM2.out hz2.out hkl HLT.out HCUR.out HLS.out hW4
             have HD4 := hid hd4
             clear hW4 hd4)
        have HX4' := hid (show some xg ≠ (Value.slice (some ⟨g, 0, none⟩) Q.length cp).ownBlock from HX4.out)
        clear HD HM1 HM2 HLT HCUR HCS HSR HST m3 mf n0 n1 n2 hx2 hrc
        generalize wr.heap.size = G at *
        go_loopw [3, 49] (fun l i wr2 => ∃ j : Nat, j ≤ xt.kids.length ∧ i = .int .i64 j ∧ DI w wr2 65 31 l t (Q ++ (kidsP G xt.kids).take j) (Q ++ kidsP G xt.kids) ∧ wr2.cell? ⟨xg, xo + 3, none⟩ = some (.slice (some ⟨G, 0, none⟩) xt.kids.length xt.kids.length) ∧ some xg ≠ l.ownBlock) (fun _ i _ => xt.kids.length - (intOf i).toNat)
        case atStart => exact ⟨0, Nat.zero_le _, rfl, by simpa using HD4.out, c4, HX4'.out⟩
        case round =>
          obtain ⟨j, hj, rfl, hdj, cj, hxo⟩ := hrel
          have HDJ := hid hdj
          have HXO := hid hxo
          rcases Nat.lt_or_ge j xt.kids.length with hlt | hge
          · have i5 : decide ((j : Int) < (xt.kids.length : Int)) = true := by rw [decide_eq_true_eq]; omega
            have i6 : (0 : Int) ≤ (j : Int) := by omega
            have i7 : (j : Int) < (xt.kids.length : Int) := by omega
            have HLT := hid hlt
            have hsl := hid (World.ownsRow.alloc hdj.stack (.cells #[.pointer (some ⟨G, j * 4, none⟩)] 65))
            rw [show (Q ++ (kidsP G xt.kids).take j).length = Q.length + j by simp [kidsP_len]; omega] at hsl
            obtain ⟨pi, pi1, pi2, pi3, pi4⟩ := info_parts ptrInfo
            clear hdj hlt hxo
            go_wp2_with first
              | (refine wpList_append_any _ rfl (.tmp 52) (.tmp 59) 67 rfl (w.heap.size + 2) 65 pi _ 1 8 Try.underlying67 pi1 pi2 pi3 pi4 rfl (Nat.succ_pos 0) _ (Q.length + j) _ rfl hsl.out (fun _ => True) _ 1 1 [.pointer (some ⟨G, j * 4, none⟩)] rfl rfl (one_reads _ _ _ _ rfl) (by intro u hu; simp at hu; subst hu; rfl) (by unfold maxLen; omega) (by omega) (by have := HDJ.out.box; simp; omega) ?_
                 intro v' w' h3 h4 h5
                 have HP := hid (DI.pushed HDJ.out HLT.out rfl h3 h4 h5)
                 have HXC := hid (pushed_cell h4 cj HXO.out)
                 have HXN := hid (pushed_own h5 cj HXO.out)
                 clear h3 h4 h5)
            go_roundw
            case rel => exact ⟨j + 1, by omega, by go_num, HP.out, HXC.out, HXN.out⟩
            case measure => simp [intOf]; omega
          · obtain rfl : j = xt.kids.length := by omega
            have i5 : decide ((xt.kids.length : Int) < (xt.kids.length : Int)) = false := by rw [decide_eq_false_iff_not]; omega
            clear hdj
            go_wp2_with fail
            have hpc : pcnt (Q ++ kidsP G xt.kids) < gk := by
              have h1 := HK.out
              rw [pcnt_append] at h1 ⊢
              rw [kidsP, kidsF_cnt]
              simp only [pcnt] at h1
              rw [countS_kids] at h1
              omega
            go_roundg (pcnt (Q ++ kidsP G xt.kids))
            case measure => exact hpc
            case rel =>
              refine ⟨_, Q ++ kidsP G xt.kids, rfl, ?_, rfl, by omega⟩
              have h := HDJ.out
              rw [List.take_of_length_le (by rw [kidsP_len]; exact Nat.le_refl _)] at h
              exact h
end Go.Proofs.Ythpngeboknmllaa
