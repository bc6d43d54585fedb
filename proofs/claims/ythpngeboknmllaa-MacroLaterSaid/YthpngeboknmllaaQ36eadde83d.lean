/- Texts put together. -/
import Derived.Test.YthpngeboknmllaaQf30ca507da
import Derived.Test.YthpngeboknmllaaQf4ed3bae20
import Derived.Test.YthpngeboknmllaaQ3a7ee8f12d
set_option linter.unusedVariables false
set_option linter.unusedSimpArgs false
set_option maxRecDepth 100000
namespace Go.Proofs.Ythpngeboknmllaa
open Go.RowKit
theorem placeS_bd {t:Tree} (h:(placeS t).2 = true):1≤(placeS t).1∧(placeS t).1≤4:=by
 unfold placeS at h ⊢
 split at h
 ·cases h
 ·rename_i hn
  rw [if_neg hn]
  simp only [Bool.and_eq_true,decide_eq_true_eq] at h ⊢
  exact h
theorem plOks_at {P:Int}:{ts:List Tree}→plOks P ts = true→{k:Nat}→(h:k < ts.length)→plOk P ts[k] = true
 | t :: ts,h,0,_=>by rw [plOks,Bool.and_eq_true] at h;exact h.1
 | t :: ts,h,k + 1,hk=>by rw [plOks,Bool.and_eq_true] at h;exact plOks_at h.2 (by simpa using hk)
theorem plOk_kids {P k c:Int} {s:ByteArray} {us:List Tree} (h:plOk P (.mk k s c us) = true):plOks P us = true∧((placeS (.mk k s c us)).2 = true→(placeS (.mk k s c us)).1≤P):=by
 rw [plOk,Bool.and_eq_true] at h
 refine ⟨h.2,fun hp=>?_⟩
 have h1:=h.1
 rw [hp] at h1
 simpa using h1
theorem stepO2 {w:World} {b:Nat} {xss:List Tree} {x:Tree} {v:Value} {ops:Array Oper} {o:Oper} {a:Act} {K:Act→World→Prop} {Q:Exit→Act→World→Prop} {E0:Prop} (hgd:o.guard = none) (s y:Operand)
  (ho:o.op = .call { callee:=.builtin .append,args:=#[s,y],argTypes:=#[23,23] })
  (hs:a.eval s = v) (hown:OwnTrees w b xss v) {g:Nat} {cs:List Value} (hy:a.eval y = .slice (some ⟨g,0,none⟩) 1 1) (h8:HasObj w g (.cells cs.toArray 31)) (hx:treeE.R w (FreshIn b w v) x cs)
  (hbound:xss.length≤100000000) (hb:b≤w.heap.size)
  (h:∀ v' w',OwnTrees w' b (xss ++ [x]) v'→Below b w w'→w.grownBy w' v.ownBlock→K (a.put o.dst v') w') :
  if Region.wanted o (yielded ops a.tmps) = true then Oper.wp Try.prog o a w K Q else E0:=by
 obtain ⟨i0,hi0,hz0,hz1,hz2⟩:=nodeInfo'
 obtain ⟨ds,ho1,ho2⟩:=hown
 have hls:ListR treeE w (FreshIn b w v) [x] cs:=ListR.single hx
 have hl:=hls.len
 refine step_append_any w hgd s y 23 ho b 31 i0 _ 4 56 Try.underlying23 hi0 hz0 hz1 hz2 rfl (by omega) v _ _ hs ho1 (fun k=>k = g) (some ⟨g,0,none⟩) 1 1 cs hy hl (fun _=>⟨g,0,rfl,rfl,fun j u hu=>by rw [Nat.zero_add];exact (h8.cell j).trans (by simpa using hu)⟩) hls.one (by simp only [maxLen];omega) (by omega) hb ?_
 intro v' w' h3 h4 h5
 exact h v' w' (trees_grown ho1 ho2 hls h3 h4 h5) (below_of_grown _ ho1 h4 hb) h4
set_option maxHeartbeats 16000000 in
theorem fill_any (args : List Tree) (hargs : ∀ a ∈ args, countS a ≤ 1000) (hal : args.length ≤ 1000) : ∀ (n : Nat) (ts : List Tree), countsS ts ≤ n → n ≤ 1000 → ∀ (w : World) (A Aa : Option Addr) (cap ca : Nat), SliceR treeE w (Lt w.heap.size) ts (.slice A ts.length cap) → SliceR treeE w (Lt w.heap.size) args (.slice Aa args.length ca) → plOks args.length ts = true →
    Calls Try.prog 20 #[.slice A ts.length cap, .slice Aa args.length ca] w (CopiesRes w (fillL args ts)) := by
  intro n
  induction n with
  | zero =>
    intro ts hn hn9 w A Aa cap ca hv hva hpl
    have h0 : ts = [] := by have := countsS_len ts; exact List.length_eq_zero_iff.1 (by omega)
    subst h0
    go_enter Try.func20, Try.ntmps20
    go_wp2_with fail
    go_loopw [5, 15] (fun rv i wr => Below w.heap.size w wr ∧ rv = .slice none 0 0 ∧ i = .int .i64 0) (fun _ _ _ => 0)
    case atStart => exact ⟨Below.refl _ _, rfl, rfl⟩
    case round =>
    obtain ⟨hb, rfl, rfl⟩ := hrel
    go_wp2_with fail
    go_ret
    exact ⟨_, rfl, by rw [fillL]; exact OwnTrees.nil _ _, hb⟩
  | succ n ih =>
    intro ts hn hn9 w A Aa cap ca hv hva hpl
    have HV := hid hv
    have HVA := hid hva
    have hlen : ts.length ≤ 1000 := Nat.le_trans (countsS_len ts) (by omega)
    have HPL := hid hpl
    have HN := hid hn
    have HIH := hid ih
    clear hv hva hpl hn ih
    go_enter Try.func20, Try.ntmps20
    go_wp2_with fail
    go_loopw [5, 15] (fun rv i wr => Below w.heap.size w wr ∧ ∃ (k : Nat), k ≤ ts.length ∧ i = .int .i64 k ∧ OwnTrees wr w.heap.size (fillL args (ts.take k)) rv) (fun _ i _ => ts.length - (intOf i).toNat)
    case atStart => exact ⟨Below.refl _ _, 0, Nat.zero_le _, rfl, by rw [List.take_zero, fillL]; exact OwnTrees.nil _ _⟩
    case round =>
    rename World => wo
    obtain ⟨hbr, k, hk, rfl, hor⟩ := hrel
    have HBR := hid hbr
    obtain ⟨Ar, cr, rfl⟩ := hor.form
    have HOR := hid hor
    by_cases hlt : k < ts.length
    · have i0 : (k : Int) < (ts.length : Int) := by omega
      have i00 : (0 : Int) ≤ (k : Int) := by omega
      have HTK := hid (fillL_take args ts k hlt)
      have HPK := hid (plOks_at HPL.out hlt)
      have hcle : countS ts[k] ≤ countsS ts := by
        have h1 := countsS_take hlt
        have h2 := countsS_take_le ts (k + 1)
        omega
      obtain ⟨_, _, rs, hq, _, _, hrd, hls⟩ := HV.out.below hbr hbr.size
      cases hq
      obtain ⟨g', o', A', cap', rs', rfl, hg', e0, e1, e2, e3, h64, h64', hts, hc5, hc6, hrd', hls'⟩ := trees_at hrd hls hlt
      have HUS : Hid (SliceR treeE wo (Lt wo.heap.size) ts[k].kids (.slice A' ts[k].kids.length cap')) := ⟨_, _, rs', rfl, hc5, hc6, hrd', hls'⟩
      have HCNT : Hid (countS ts[k] ≤ n + 1) := by show _ ≤ _; have := HN.out; omega
      have HAL0 : Hid ((fillL args (ts.take k)).length ≤ 1001000) := by
        have h1 := fillL_len args 1000 (fun a ha => by have h2 := hargs a ha; have h3 := countsS_len a.kids; have h4 := countS_kids a; omega) (ts.take k)
        have h2 : (ts.take k).length ≤ 1000 := by simp only [List.length_take]; omega
        have h3 : (ts.take k).length * 1001 ≤ 1000 * 1001 := Nat.mul_le_mul_right _ h2
        show _ ≤ _; omega
      generalize hx : ts[k] = x at *
      obtain ⟨ik, is, ic, us⟩ := x
      simp only [Tree.kind, Tree.text, Tree.cols, Tree.kids] at *
      have HOK : Hid (In64 ik ∧ In64 ic ∧ is.size ≤ maxLen) := ⟨h64, h64', hts⟩
      have hus : us.length ≤ 1000 := by have h1 := HCNT.out; rw [countS] at h1; have := countsS_len us; omega
      have HUL : Hid (us.length ≤ cap' ∧ cap' ≤ maxLen) := ⟨hc5, hc6⟩
      have CPL : Hid (Calls Try.prog 31 #[.pointer (some ⟨g', o' + k * 4, none⟩)] wo fun e w' => e = .returned (.tuple #[.int .i64 (placeS (.mk ik is ic us)).1, .bool (placeS (.mk ik is ic us)).2]) ∧ wo = w') :=
        place_any ik ic is us g' (o' + k * 4) us.length A' cap' wo hts rfl (by omega) e0 e1 e2 e3
      have HBD := hid (@placeS_bd (.mk ik is ic us))
      have HKD := hid (plOk_kids HPK.out)
      have HFL : Hid (fillL args [.mk ik is ic us] = (if (placeS (.mk ik is ic us)).2 then (args.getD ((placeS (.mk ik is ic us)).1.toNat - 1) zeroT).kids else [.mk ik is ic (fillR args us)])) := by show _ = _; rw [fillL, fillL, List.append_nil]
      generalize placeS (.mk ik is ic us) = PQ at *
      obtain ⟨pk, pp⟩ := PQ
      simp only at HBD HKD HFL CPL
      clear hrd hls hrd' hls' hx hc5 hc6 h64 h64' hts hbr hor HPK hcle
      cases pp
      case true =>
        have hb1 := HBD.out (by trivial)
        have hb2 := HKD.out.2 (by trivial)
        obtain ⟨j, rfl⟩ : ∃ j : Nat, pk = (j : Int) + 1 := ⟨(pk - 1).toNat, by omega⟩
        have hj : j < args.length := by omega
        have HFL2 : Hid (fillL args [.mk ik is ic us] = args[j].kids) := by
          show _ = _
          rw [HFL.out, if_pos (by trivial), show ((j : Int) + 1).toNat - 1 = j by omega, List.getD_eq_getElem?_getD, List.getElem?_eq_getElem hj]
          rfl
        obtain ⟨_, _, rs, hq, _, _, hrd, hls⟩ := HVA.out.below HBR.out HBR.out.size
        cases hq
        obtain ⟨g2, o2, A2, c2, rs2, rfl, hg2, _, _, _, a3, _, _, _, q5, q6, hrd2, hls2⟩ := trees_at hrd hls hj
        have hcj := hargs args[j] (List.getElem_mem hj)
        have hck := countS_kids args[j]
        have CD : Hid (Calls Try.prog 32 #[.slice A2 args[j].kids.length c2] wo (CopiesRes wo args[j].kids)) := deepNodes_any args[j].kids _ wo ⟨_, _, rs2, rfl, q5, q6, hrd2, hls2⟩ (by omega)
        have HKL : Hid (args[j].kids.length ≤ 1000) := by show _ ≤ _; have := countsS_len args[j].kids; omega
        have w1 : IntKind.i64.wrap ((j : Int) + 1 - 1) = (j : Int) := by rw [show (j : Int) + 1 - 1 = (j : Int) by omega]; exact IntWalk.i64_in _ (by omega)
        have w2 : IntKind.i64.wrap (j : Int) = (j : Int) := IntWalk.i64_in _ (by omega)
        have i3 : (j : Int) < (args.length : Int) := by omega
        have i4 : (0 : Int) ≤ (j : Int) := by omega
        clear hrd hls hrd2 hls2 hb1 hb2 hcj hck q5 q6 HBD HKD HFL HIH
        generalize args[j].kids = ks at *
        go_wp2_with fail
        refine CPL.out.mono ?_
        rintro e w6 ⟨rfl, rfl⟩
        go_wp2_with (first
          | (go_at_call 32; refine Calls.mono CD.out ?_; rintro e wk ⟨vk, rfl, hok, hbk⟩; obtain ⟨A8, c8, rfl⟩ := hok.form; have HR8 := hid (SliceR.keep (S' := FreshIn w.heap.size wk (.slice Ar (fillL args (ts.take k)).length cr)) hok.rows (fun _ _ => rfl) (fun q hq => ⟨Nat.le_trans HBR.out.size hq.1, hq.2, fun e => by have h9 := (HOR.out.own_lt q e.symm).2; have h8 := hq.1; omega⟩)); have HO8 := hid (HOR.out.below hbk); have HB8 := hid (HBR.out.trans (hbk.mono HBR.out.size)); clear hok hbk)
          | (refine app_trees rfl (.tmp 27) (.tmp 34) rfl w.heap.size _ _ ks rfl HO8.out A8 ks.length c8 rfl HR8.out (by have := HAL0.out; have := HKL.out; omega) HB8.out.size ?_; intro v9 w9 ho9 hb9; have HO9 := hid ho9; have HB9 := hid (HB8.out.trans hb9); clear ho9 hb9)
          | fail)
        go_roundw
        case rel => exact ⟨HB9.out, k + 1, by omega, by go_num, by rw [HTK.out, HFL2.out]; exact HO9.out⟩
        case measure => simp [intOf]; omega
      case false =>
        have HFL2 := hid (HFL.out.trans (if_neg (by simp)))
        have HPU := hid HKD.out.1
        clear HBD HKD HFL
        have e0a : ∀ o9, (wo.alloc o9).cell? ⟨g', o' + k * 4, none⟩ = some (.int .i64 ik) := fun o9 => ((blA wo o9).cell (cell_lt e0)).trans e0
        have e1a : ∀ o9, (wo.alloc o9).cell? ⟨g', o' + k * 4 + 1, none⟩ = some (.string is) := fun o9 => ((blA wo o9).cell (cell_lt e1)).trans e1
        have e2a : ∀ o9, (wo.alloc o9).cell? ⟨g', o' + k * 4 + 2, none⟩ = some (.int .i64 ic) := fun o9 => ((blA wo o9).cell (cell_lt e2)).trans e2
        go_wp2_with fail
        refine CPL.out.mono ?_
        rintro e w6 ⟨rfl, rfl⟩
        go_upto_region 9 with fail
        go_region
        obtain ⟨W5, hW5⟩ : ∃ W5, (wo.alloc (.cells #[.int .i64 ik, .string is, .int .i64 ic, .slice none 0 0] 31)).drew = W5 := ⟨_, rfl⟩
        rw [hW5]
        have hb5 : Below wo.heap.size wo W5 := by rw [← hW5]; exact Below.drew (blA _ _)
        have HB5 := hid hb5
        have HGM5 : Hid (HasObj W5 wo.heap.size (.cells #[.int .i64 ik, .string is, .int .i64 ic, .slice none 0 0] 31)) := by show HasObj _ _ _; rw [← hW5]; exact (HasObj.at0 _ _).dr
        have HUS5 := HUS
        have HVA5 := hid (HVA.out.below HBR.out HBR.out.size)
        have hg'5 : g' < wo.heap.size := cell_lt e3
        have e35 : W5.cell? ⟨g', o' + k * 4 + 3, none⟩ = some (.slice A' us.length cap') := (hb5.cell (p := ⟨g', o' + k * 4 + 3, none⟩) hg'5).trans e3
        have HGMW : Hid (w.heap.size ≤ wo.heap.size) := HBR.out.size
        obtain ⟨gm, hgm⟩ : ∃ gm, wo.heap.size = gm := ⟨_, rfl⟩
        rw [hgm] at HB5 HGM5 HUS5 HGMW HVA5
        have HGM := hid hgm
        simp only [hgm]
        clear hW5 hb5 e0 e1 e2 e3 e0a e1a e2a hgm CPL
        go_wp2_with fail
        go_loopw [54] (fun i wr => Below gm wo wr ∧ ∃ (j : Nat) (v : Value), j ≤ us.length ∧ i = .int .i64 j ∧ HasObj wr gm (.cells #[.int .i64 ik, .string is, .int .i64 ic, v] 31) ∧ OwnTrees wr (gm + 1) (fillR args (us.take j)) v) (fun i _ => us.length - (intOf i).toNat)
        case atStart => exact ⟨HB5.out, 0, .slice none 0 0, Nat.zero_le _, rfl, HGM5.out, by rw [List.take_zero, fillR]; exact OwnTrees.nil _ _⟩
        case round =>
        obtain ⟨hbx, j, v, hj, rfl, hgx, hox⟩ := hrel
        obtain ⟨Av, cv, rfl⟩ := hox.form
        have HBX := hid hbx
        have HGMC := hid hgx
        have HOWC := hid hox
        clear hbx hgx hox
        by_cases hjl : j < us.length
        · have j0 : (j : Int) < (us.length : Int) := by omega
          have j00 : (0 : Int) ≤ (j : Int) := by omega
          have HFT := hid (fillR_take args us j hjl)
          have HPJ := hid (plOks_at HPU.out hjl)
          have hcu : countS us[j] ≤ countsS us := by
            have h1 := countsS_take hjl
            have h2 := countsS_take_le us (j + 1)
            omega
          obtain ⟨_, _, rs, hq, _, _, hrd, hls⟩ := HUS5.out.below HBX.out (Nat.le_refl gm)
          cases hq
          obtain ⟨g3, o3, Aj, cj, rs3, rfl, hg3, f0, f1, f2, f3, q64, q64', qts, qc5, qc6, hrd3, hls3⟩ := trees_at hrd hls hjl
          have HVS : Hid (SliceR treeE wr (Lt gm) us[j].kids (.slice Aj us[j].kids.length cj)) := ⟨_, _, rs3, rfl, qc5, qc6, hrd3, hls3⟩
          have HCU : Hid (countS us[j] ≤ n) := by show _ ≤ _; have h1 := HCNT.out; rw [countS] at h1; omega
          have HLL : Hid ((fillR args (us.take j)).length ≤ 100000000) := by show _ ≤ _; rw [fillR_len]; simp only [List.length_take]; omega
          generalize hy : us[j] = y at *
          obtain ⟨jk, js, jc, vs⟩ := y
          simp only [Tree.kind, Tree.text, Tree.cols, Tree.kids] at *
          have HPV := hid (plOk_kids HPJ.out).1
          have hcv : countsS vs ≤ n := by have h1 := HCU.out; rw [countS] at h1; omega
          have HCV := hid hcv
          have HOLT : Hid (∀ k, (Value.slice Av (fillR args (us.take j)).length cv).ownBlock = some k → k < wr.heap.size) := fun k hk => (HOWC.out.own_lt k hk).2
          have HGZ0 : Hid (gm < wr.heap.size) := HGMC.out.lt
          generalize fillR args (us.take j) = L at *
          clear hrd hls hrd3 hls3 hy qc5 qc6 q64 q64' qts hcv hcu HPJ e35
          go_upto_region 13 with (first
            | (refine sR 31 12 57 (HasObj.at0 _ _) ?_)
            | fail)
          generalize hX : World.setRow _ _ _ = X
          have hbx := putB hX
          have HGS : Hid (HasObj X.drew wr.heap.size (.cells #[.int .i64 jk, .string js, .int .i64 jc, .slice Aj vs.length cj] 31)) := (put0 hX).dr
          have HGX : Hid (gm < wr.heap.size ∧ wr.heap.size < X.heap.size) := ⟨HGZ0.out, (put0 hX).lt⟩
          have HGMC := hid ((HGMC.out.below hbx).dr)
          have HOWC := hid ((HOWC.out.below hbx).below (Below.drew (Below.refl _ _)))
          have HBX0 := hid HBX.out
          have HBX := hid (Below.drew (HBX.out.trans (hbx.mono (Nat.le_of_lt HGZ0.out))))
          have HVSX := hid (HVS.out.below (hbx.mono (Nat.le_of_lt HGZ0.out)) (Nat.le_of_lt (Nat.lt_trans HGX.out.1 HGX.out.2)))
          have HGL : Hid (gm + 1 ≤ X.heap.size) := by show _ ≤ _; have := HGX.out; omega
          have HCC : Hid (Calls Try.prog 20 #[.slice Aj vs.length cj, .slice Aa args.length ca] X.drew (CopiesRes X.drew (fillL args vs))) :=
            HIH.out vs HCV.out (by omega) X.drew Aj Aa cj ca (HVSX.out.keep (fun _ _ => rfl) (fun _ h => h)) ((HVA5.out.below (HBX0.out.trans (hbx.mono (Nat.le_of_lt HGZ0.out))) (Nat.le_of_lt (Nat.lt_trans HGX.out.1 HGX.out.2))).keep (fun _ _ => rfl) (fun _ h => h)) HPV.out
          generalize wr.heap.size = gs at *
          have HAL := HLL
          clear hX hbx
          refine wp_region_noPanic ?_
          refine wp_region_held_drew (S := fun w' => Below gm wo w' ∧ HasObj w' gs (.cells #[.int .i64 jk, .string js, .int .i64 jc, .slice Aj vs.length cj] 31)) (by kernel_rfl) ⟨HBX.out, HGS.out⟩ (fun hHeld => ?_)
          refine tk 0 58 rfl ?_
          refine tk 2 60 rfl ?_
          refine tk 3 61 rfl ?_ (hy := Or.inl ⟨by rfl, fun W hS => by have h : W.cell? ⟨gs, 3, none⟩ = some (.slice Aj vs.length cj) := hS.2.cell 3; clear hS; go_simp; try with_reducible rfl⟩)
          refine tk 4 62 rfl ?_
          refine rn [1, 5] (rc (some 59) rfl (fun K hK => ?_) (rc (some 63) rfl (fun K hK => ?_) AllReadyH.nil))
          have y3 := HGMC.out.cell 3
          simp only [List.getElem?_toArray, List.getElem?_cons_zero, List.getElem?_cons_succ] at y3
          go_simp
          clear y3
          refine hK.out _ _ (⟨HBX.out, HGS.out⟩) (fun hHeld => ?_)
          clear hK K
          refine r1 5 (some 63) rfl (fun K hK => ?_)
          go_simp
          refine Calls.mono HCC.out ?_
          rintro e wk ⟨vk, rfl, hok, hbk⟩
          obtain ⟨A8, n8, c8, e8⟩ : ∃ A n c, vk = .slice A n c := by obtain ⟨A, c, e⟩ := hok.form; exact ⟨A, _, c, e⟩
          subst e8
          have HVK := hid hok.rows
          have HSZ : Hid (X.heap.size ≤ wk.heap.size) := hbk.size
          have HBX := hid (HBX.out.trans (hbk.mono (Nat.le_of_lt HGMC.out.lt)))
          have HGS := hid (HGS.out.below hbk)
          have HGMC := hid (HGMC.out.below hbk)
          have HOWC := hid (HOWC.out.below hbk)
          clear hok hbk
          refine hK.out _ _ (⟨HBX.out, HGS.out⟩) (fun hHeld => ?_)
          clear hK K
          refine tk 6 64 rfl ?_
          refine r1 7 (some 65) rfl (fun K hK => ?_)
          go_simp
          have HN8 := hid (HasObj.at0 wk (.cells #[.int .i64 1, .string ⟨#[]⟩, .int .i64 0, .slice A8 n8 c8] 31))
          have hba := blA wk (.cells #[.int .i64 1, .string ⟨#[]⟩, .int .i64 0, .slice A8 n8 c8] 31)
          have HRX : Hid (treeE.R (wk.alloc (.cells #[.int .i64 1, .string ⟨#[]⟩, .int .i64 0, .slice A8 n8 c8] 31)) (FreshIn (gm + 1) (wk.alloc (.cells #[.int .i64 1, .string ⟨#[]⟩, .int .i64 0, .slice A8 n8 c8] 31)) (.slice Av L.length cv)) (rowT (fillL args vs)) [.int .i64 1, .string ⟨#[]⟩, .int .i64 0, .slice A8 n8 c8]) := treeR_mk.2 ⟨_, rfl, by simp [In64, rowT, Tree.kind], by simp [In64, rowT, Tree.cols], Nat.zero_le _, HVK.out.keep (fun p hp => hba.cell hp.2) (fun k hk => ⟨by have := HGL.out; have h9 : X.heap.size ≤ k := hk.1; omega, by have h9 := hk.2; simp; omega, fun e => by have h9 : X.heap.size ≤ k := hk.1; have := HOLT.out k e.symm; have := HGX.out; omega⟩)⟩
          have HBX := hid (HBX.out.trans (hba.mono (Nat.le_of_lt HGMC.out.lt)))
          have HGS := hid (HGS.out.below hba)
          have HGMC := hid (HGMC.out.below hba)
          have HOWC := hid (HOWC.out.below hba)
          generalize hwa : wk.alloc (.cells #[.int .i64 1, .string ⟨#[]⟩, .int .i64 0, .slice A8 n8 c8] 31) = wa at *
          have HWS : Hid (wk.heap.size < wa.heap.size) := by show _ < _; rw [← hwa]; simp
          clear hwa hba
          refine hK.out _ _ (⟨HBX.out, HGS.out⟩) (fun hHeld => ?_)
          clear hK K
          refine r1 8 (some 66) rfl (fun K hK => ?_)
          refine stepO2 rfl (.tmp 59) (.tmp 65) (by rfl) (by rfl) HOWC.out (by rfl) HN8.out HRX.out HAL.out (by have := HGL.out; have := HSZ.out; have := HWS.out; omega) ?_
          intro v3 w3 ho3 hb3 hg3
          obtain ⟨A9, n9, c9, e9⟩ : ∃ A n c, v3 = .slice A n c := by obtain ⟨A, c, e⟩ := ho3.form; exact ⟨A, _, c, e⟩
          subst e9
          have HO3 := hid ho3
          have HGM3 := hid (HGMC.out.belowB hb3 (Nat.lt_succ_self _))
          have HGS := hid (HGS.out.grown hg3 (fun e => by have := HOLT.out _ e.symm; have := HGX.out; omega))
          have HBX := hid (HBX.out.trans ((hb3.mono (Nat.le_succ gm) : Below gm wa w3)))
          clear ho3 hb3 hg3
          refine hK.out _ _ (⟨HBX.out, HGS.out⟩) (fun hHeld => ?_)
          clear hK K
          refine tk 9 67 rfl ?_
          rotate_left
          go_simp
          refine Calls.mono HCC.out ?_
          rintro e wk ⟨vk, rfl, hok, hbk⟩
          obtain ⟨A8, n8, c8, e8⟩ : ∃ A n c, vk = .slice A n c := by obtain ⟨A, c, e⟩ := hok.form; exact ⟨A, _, c, e⟩
          subst e8
          have HVK := hid hok.rows
          have HSZ : Hid (X.heap.size ≤ wk.heap.size) := hbk.size
          have HBX := hid (HBX.out.trans (hbk.mono (Nat.le_of_lt HGMC.out.lt)))
          have HGS := hid (HGS.out.below hbk)
          have HGMC := hid (HGMC.out.below hbk)
          have HOWC := hid (HOWC.out.below hbk)
          clear hok hbk
          refine hK.out _ _ (⟨HBX.out, HGS.out⟩) (fun hHeld => ?_)
          clear hK K
          refine tk 6 64 rfl ?_
          refine rn [1, 7] (rc (some 59) rfl (fun K hK => ?_) (rc (some 65) rfl (fun K hK => ?_) AllReadyH.nil))
          have y3 := HGMC.out.cell 3
          simp only [List.getElem?_toArray, List.getElem?_cons_zero, List.getElem?_cons_succ] at y3
          go_simp
          clear y3
          refine hK.out _ _ (⟨HBX.out, HGS.out⟩) (fun hHeld => ?_)
          clear hK K
          refine r1 7 (some 65) rfl (fun K hK => ?_)
          go_simp
          have HN8 := hid (HasObj.at0 wk (.cells #[.int .i64 1, .string ⟨#[]⟩, .int .i64 0, .slice A8 n8 c8] 31))
          have hba := blA wk (.cells #[.int .i64 1, .string ⟨#[]⟩, .int .i64 0, .slice A8 n8 c8] 31)
          have HRX : Hid (treeE.R (wk.alloc (.cells #[.int .i64 1, .string ⟨#[]⟩, .int .i64 0, .slice A8 n8 c8] 31)) (FreshIn (gm + 1) (wk.alloc (.cells #[.int .i64 1, .string ⟨#[]⟩, .int .i64 0, .slice A8 n8 c8] 31)) (.slice Av L.length cv)) (rowT (fillL args vs)) [.int .i64 1, .string ⟨#[]⟩, .int .i64 0, .slice A8 n8 c8]) := treeR_mk.2 ⟨_, rfl, by simp [In64, rowT, Tree.kind], by simp [In64, rowT, Tree.cols], Nat.zero_le _, HVK.out.keep (fun p hp => hba.cell hp.2) (fun k hk => ⟨by have := HGL.out; have h9 : X.heap.size ≤ k := hk.1; omega, by have h9 := hk.2; simp; omega, fun e => by have h9 : X.heap.size ≤ k := hk.1; have := HOLT.out k e.symm; have := HGX.out; omega⟩)⟩
          have HBX := hid (HBX.out.trans (hba.mono (Nat.le_of_lt HGMC.out.lt)))
          have HGS := hid (HGS.out.below hba)
          have HGMC := hid (HGMC.out.below hba)
          have HOWC := hid (HOWC.out.below hba)
          generalize hwa : wk.alloc (.cells #[.int .i64 1, .string ⟨#[]⟩, .int .i64 0, .slice A8 n8 c8] 31) = wa at *
          have HWS : Hid (wk.heap.size < wa.heap.size) := by show _ < _; rw [← hwa]; simp
          clear hwa hba
          refine hK.out _ _ (⟨HBX.out, HGS.out⟩) (fun hHeld => ?_)
          clear hK K
          refine r1 8 (some 66) rfl (fun K hK => ?_)
          refine stepO2 rfl (.tmp 59) (.tmp 65) (by rfl) (by rfl) HOWC.out (by rfl) HN8.out HRX.out HAL.out (by have := HGL.out; have := HSZ.out; have := HWS.out; omega) ?_
          intro v3 w3 ho3 hb3 hg3
          obtain ⟨A9, n9, c9, e9⟩ : ∃ A n c, v3 = .slice A n c := by obtain ⟨A, c, e⟩ := ho3.form; exact ⟨A, _, c, e⟩
          subst e9
          have HO3 := hid ho3
          have HGM3 := hid (HGMC.out.belowB hb3 (Nat.lt_succ_self _))
          have HGS := hid (HGS.out.grown hg3 (fun e => by have := HOLT.out _ e.symm; have := HGX.out; omega))
          have HBX := hid (HBX.out.trans ((hb3.mono (Nat.le_succ gm) : Below gm wa w3)))
          clear ho3 hb3 hg3
          refine hK.out _ _ (⟨HBX.out, HGS.out⟩) (fun hHeld => ?_)
          clear hK K
          refine tk 9 67 rfl ?_
          rotate_left
          go_simp
          have HN8 := hid (HasObj.at0 wk (.cells #[.int .i64 1, .string ⟨#[]⟩, .int .i64 0, .slice A8 n8 c8] 31))
          have hba := blA wk (.cells #[.int .i64 1, .string ⟨#[]⟩, .int .i64 0, .slice A8 n8 c8] 31)
          have HRX : Hid (treeE.R (wk.alloc (.cells #[.int .i64 1, .string ⟨#[]⟩, .int .i64 0, .slice A8 n8 c8] 31)) (FreshIn (gm + 1) (wk.alloc (.cells #[.int .i64 1, .string ⟨#[]⟩, .int .i64 0, .slice A8 n8 c8] 31)) (.slice Av L.length cv)) (rowT (fillL args vs)) [.int .i64 1, .string ⟨#[]⟩, .int .i64 0, .slice A8 n8 c8]) := treeR_mk.2 ⟨_, rfl, by simp [In64, rowT, Tree.kind], by simp [In64, rowT, Tree.cols], Nat.zero_le _, HVK.out.keep (fun p hp => hba.cell hp.2) (fun k hk => ⟨by have := HGL.out; have h9 : X.heap.size ≤ k := hk.1; omega, by have h9 := hk.2; simp; omega, fun e => by have h9 : X.heap.size ≤ k := hk.1; have := HOLT.out k e.symm; have := HGX.out; omega⟩)⟩
          have HBX := hid (HBX.out.trans (hba.mono (Nat.le_of_lt HGMC.out.lt)))
          have HGS := hid (HGS.out.below hba)
          have HGMC := hid (HGMC.out.below hba)
          have HOWC := hid (HOWC.out.below hba)
          generalize hwa : wk.alloc (.cells #[.int .i64 1, .string ⟨#[]⟩, .int .i64 0, .slice A8 n8 c8] 31) = wa at *
          have HWS : Hid (wk.heap.size < wa.heap.size) := by show _ < _; rw [← hwa]; simp
          clear hwa hba
          refine hK.out _ _ (⟨HBX.out, HGS.out⟩) (fun hHeld => ?_)
          clear hK K
          refine r1 1 (some 59) rfl (fun K hK => ?_)
          have y3 := HGMC.out.cell 3
          simp only [List.getElem?_toArray, List.getElem?_cons_zero, List.getElem?_cons_succ] at y3
          go_simp
          clear y3
          refine hK.out _ _ (⟨HBX.out, HGS.out⟩) (fun hHeld => ?_)
          clear hK K
          refine r1 8 (some 66) rfl (fun K hK => ?_)
          refine stepO2 rfl (.tmp 59) (.tmp 65) (by rfl) (by rfl) HOWC.out (by rfl) HN8.out HRX.out HAL.out (by have := HGL.out; have := HSZ.out; have := HWS.out; omega) ?_
          intro v3 w3 ho3 hb3 hg3
          obtain ⟨A9, n9, c9, e9⟩ : ∃ A n c, v3 = .slice A n c := by obtain ⟨A, c, e⟩ := ho3.form; exact ⟨A, _, c, e⟩
          subst e9
          have HO3 := hid ho3
          have HGM3 := hid (HGMC.out.belowB hb3 (Nat.lt_succ_self _))
          have HGS := hid (HGS.out.grown hg3 (fun e => by have := HOLT.out _ e.symm; have := HGX.out; omega))
          have HBX := hid (HBX.out.trans ((hb3.mono (Nat.le_succ gm) : Below gm wa w3)))
          clear ho3 hb3 hg3
          refine hK.out _ _ (⟨HBX.out, HGS.out⟩) (fun hHeld => ?_)
          clear hK K
          refine tk 9 67 rfl ?_
          rotate_left
          all_goals
            refine r1 10 none rfl (fun K hK => ?_)
            have y3 := HGM3.out.cell 3
            have f3 := HGM3.out.free 3
            simp only [List.getElem?_toArray, List.getElem?_cons_zero, List.getElem?_cons_succ] at y3
            go_simp
            generalize hW : World.setCell _ _ _ = W4
            have hkb : Kept (fun k => k = gm) w3 W4 := by rw [← hW]; exact Kept.set _ ⟨gm, 3, none⟩ _
            have HGM4 : Hid (HasObj W4 gm (.cells #[.int .i64 ik, .string is, .int .i64 ic, .slice A9 n9 c9] 31)) := by show HasObj _ _ _; rw [← hW]; exact HGM3.out.set (i := 3) _
            have HB4 : Hid (Below gm wo W4) := HBX.out.trans (hkb.below (Nat.le_of_lt HGM3.out.lt) (fun k e => Nat.le_of_eq e.symm))
            have HGS4 := hid (hkb.obj HGS.out (fun e => by have := HGX.out; omega))
            have HO4 := hid (HO3.out.kept hkb (fun k hk e => by omega))
            clear hW hkb y3 f3
            refine hK.out _ _ (⟨HB4.out, HGS4.out⟩) (fun hHeld => ?_)
            clear hK K
            try simp only [Act.put, List.setIfInBounds_toArray, List.set_cons_zero, List.set_cons_succ]
            refine wpAnyH_done (by kernel_rfl) ?_ _
            refine NoPanic.normal ?_
          all_goals
            go_wp2_with fail
            go_roundw
            case rel => exact ⟨HB4.out, j + 1, _, by omega, by go_num, HGM4.out, by rw [HFT.out]; exact HO4.out⟩
            case measure => simp [intOf]; omega
        · have HT : us.take j = us := List.take_of_length_le (by omega)
          have j0 : ¬ (j : Int) < (us.length : Int) := by omega
          rw [HT] at HGMC HOWC
          have hbw : Below wo.heap.size wo wr := by rw [HGM.out]; exact HBX.out
          have HORX := hid (HOR.out.below hbw)
          have HBXW := hid (HBR.out.trans (hbw.mono HBR.out.size))
          have HONE := hid (tree_one (t := .mk ik is ic (fillR args us)) (v := .slice Ar (fillL args (ts.take k)).length cr) (b := w.heap.size) HOK.out HOWC.out.rows (by have := HGMW.out; omega) (fun q hq => by have h9 := (HOR.out.own_lt q hq).2; have := HGM.out; omega) HGMC.out.lt wr.heap.size rfl 31)
          simp only [Tree.kind, Tree.text, Tree.cols, Tree.kids] at HONE
          have HORA := hid (HORX.out.below (blA wr (.cells #[.int .i64 ik, .string is, .int .i64 ic, .slice Av (fillR args us).length cv] 31)))
          have HBXA := hid (blAlloc HBXW.out (.cells #[.int .i64 ik, .string is, .int .i64 ic, .slice Av (fillR args us).length cv] 31))
          clear hbw HT
          go_wp2_with (first
            | (refine lR 31 10 HGMC.out Try.underlying31 ?_)
            | (refine app_trees rfl (.tmp 69) (.tmp 71) rfl w.heap.size _ _ [.mk ik is ic (fillR args us)] rfl HORA.out _ 1 1 rfl HONE.out (by have := HAL0.out; simp only [List.length_cons, List.length_nil]; omega) HBXA.out.size ?_; intro v9 w9 ho9 hb9; have HO9 := hid ho9; have HB9 := hid (HBXA.out.trans hb9); clear ho9 hb9)
            | fail)
          go_roundw
          case rel => exact ⟨HB9.out, k + 1, by omega, by go_num, by rw [HTK.out, HFL2.out]; exact HO9.out⟩
          case measure => simp [intOf]; omega
    · have HT : ts.take k = ts := List.take_of_length_le (by omega)
      rw [HT] at HOR
      have i0 : ¬ (k : Int) < (ts.length : Int) := by omega
      clear hbr hor
      go_wp2_with fail
      go_ret
      exact ⟨_, rfl, HOR.out, HBR.out⟩
end Go.Proofs.Ythpngeboknmllaa
