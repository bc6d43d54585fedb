/- Texts put together. -/
import Derived.Test.YthpngeboknmllaaQ36eadde83d
set_option linter.unusedVariables false
set_option linter.unusedSimpArgs false
set_option maxRecDepth 100000
namespace Go.Proofs.Ythpngeboknmllaa
open Go.RowKit
theorem countsS_app:(xs ys:List Tree)→countsS (xs ++ ys) = countsS xs + countsS ys
 | [],ys=>by simp [countsS]
 | x :: xs,ys=>by rw [List.cons_append,countsS,countsS,countsS_app xs ys];omega
theorem getD_cnt (args : List Tree) (h : ∀ a ∈ args, countS a ≤ 1000) (i : Nat) : countsS (args.getD i zeroT).kids ≤ 999 := by
  rw [List.getD_eq_getElem?_getD]
  cases hq : args[i]? with
  | none => simp [zeroT, Tree.kids, countsS]
  | some a =>
    have h1 := h a (List.mem_of_getElem? hq)
    have h2 := countS_kids a
    simp only [Option.getD_some]; omega
mutual
theorem fillL_cnt (args : List Tree) (h : ∀ a ∈ args, countS a ≤ 1000) : (ts : List Tree) → countsS (fillL args ts) ≤ 999 * countsS ts
  | [] => by simp [fillL, countsS]
  | .mk k s c us :: ts => by
    have h1 := fillL_cnt args h ts
    have h2 := fillR_cnt args h us
    have h3 := getD_cnt args h ((placeS (.mk k s c us)).1.toNat - 1)
    rw [fillL, countsS_app, countsS, countS]
    split
    · omega
    · rw [countsS, countS, countsS]; omega
theorem fillR_cnt (args : List Tree) (h : ∀ a ∈ args, countS a ≤ 1000) : (ts : List Tree) → countsS (fillR args ts) ≤ 999 * countsS ts
  | [] => by simp [fillR, countsS]
  | .mk k s c us :: ts => by
    have h1 := fillR_cnt args h ts
    have h2 := fillL_cnt args h us
    rw [fillR, countsS, countsS, countS, rowT, countS]
    omega
end
theorem all_take (args:List Tree) (k:Nat) (h:k < args.length) (h1:((args.take k).all fun a=>tmplS a 4) = true) (h2:tmplS args[k] 4 = true):((args.take (k + 1)).all fun a=>tmplS a 4) = true:=by
 rw [List.take_succ_eq_append_getElem h,List.all_append,h1]
 simp [h2]
theorem all_not (args:List Tree) (k:Nat) (h:k < args.length) (h2:tmplS args[k] 4 = false):(args.all fun a=>tmplS a 4) = false:=by
 rw [Bool.eq_false_iff]
 intro h1
 have:=List.all_eq_true.1 h1 _ (List.getElem_mem h)
 rw [h2] at this;cases this
theorem zero_ok:NodeOk zeroT:=⟨by simp [zeroT,Tree.kind,In64],by simp [zeroT,Tree.cols,In64],Nat.zero_le _⟩
def FillP (w:World) (r:Tree × Int) (e:Ending) (w':World):Prop :=
 ∃ v,e = .returned (.tuple #[.agg #[.int .i64 r.1.kind,.string r.1.text,.int .i64 r.1.cols,v],.int .i64 r.2])∧SliceR treeE w' (fun q=>w.heap.size≤q∧q < w'.heap.size) r.1.kids v∧Below w.heap.size w w'∧NodeOk r.1∧countS r.1≤1000000
set_option maxHeartbeats 8000000 in
theorem fillTop_any (t:Tree) (args:List Tree) (A Aa:Option Addr) (cap ca:Nat) (w:World) (hv:SliceR treeE w (Lt w.heap.size) t.kids (.slice A t.kids.length cap)) (hok:NodeOk t) (hct:countS t≤1000000) (hva:SliceR treeE w (Lt w.heap.size) args (.slice Aa args.length ca)) (hca:∀ a ∈ args,countS a≤1000000) (hal:args.length≤1000) :
  Calls Try.prog 12 #[.agg #[.int .i64 t.kind,.string t.text,.int .i64 t.cols,.slice A t.kids.length cap],.slice Aa args.length ca] w (FillP w (fillF t args)):=by
 obtain ⟨RES,hRES⟩:∃ RES,fillF t args = RES:=⟨_,rfl⟩
 have HS:Hid (RES = if tmplS t args.length = false then (zeroT,1) else if (args.all fun a=>tmplS a 4) = false then (zeroT,1) else if tmplS (rowT (fillL args t.kids)) 4 = false then (zeroT,6) else (rowT (fillL args t.kids),0)):=by show _ = _;rw [← hRES];rfl
 rw [hRES]
 obtain ⟨W0,hW0⟩:∃ W0,(w.alloc (.cells #[.int .i64 t.kind,.string t.text,.int .i64 t.cols,.slice A t.kids.length cap] 31)).alloc (.cells #[.int .i64 0,.string ⟨#[]⟩,.int .i64 0,.slice none 0 0] 31) = W0:=⟨_,rfl⟩
 have hb0:Below w.heap.size w W0:=by rw [← hW0];exact blAlloc (blA _ _) _
 have hz0:HasObj W0 (w.heap.size + 1) (.cells #[.int .i64 0,.string ⟨#[]⟩,.int .i64 0,.slice none 0 0] 31):=by rw [← hW0];exact HasObj.at1 _ _ _
 have HO:Hid (HasObj W0 w.heap.size (.cells #[.int .i64 t.kind,.string t.text,.int .i64 t.cols,.slice A t.kids.length cap] 31)):=by show HasObj _ _ _;rw [← hW0];exact (HasObj.at0 _ _).al _
 have HZ:=hid hz0
 have HB:=hid hb0
 have CT:Hid (Calls Try.prog 17 #[.agg #[.int .i64 t.kind,.string t.text,.int .i64 t.cols,.slice A t.kids.length cap],.int .i64 args.length] W0 (BoolP W0 (tmplS t args.length))):=template_any t A cap args.length W0 (hv.below hb0 hb0.size) hok hct
 have HV:=hid (hv.below hb0 hb0.size)
 have HVA:=hid (hva.below hb0 hb0.size)
 have HCA:=hid hca
 have HOK:=hid hok
 have HTO:=hid (@tmpl_ok t args.length)
 have HALL:=hid (all_not args)
 clear hv hva hct hca hok hb0 hz0 hRES
 obtain ⟨m0,m1,m2,m3⟩:=four9 HO.out
 obtain ⟨bt,hbt⟩:∃ bt,tmplS t args.length = bt:=⟨_,rfl⟩
 rw [hbt] at CT HS HTO
 clear hbt
 go_enter Try.func12,Try.ntmps12
 go_wp2_with fail
 refine CT.out.mono ?_
 rintro e w1 ⟨rfl,hb1⟩
 have HB:=hid (HB.out.trans (hb1.mono HB.out.size))
 have HO:=hid (HO.out.below hb1)
 have HZ:=hid (HZ.out.below hb1)
 have HV:=hid (HV.out.below hb1 hb1.size)
 have HVA:=hid (HVA.out.below hb1 hb1.size)
 clear hb1 m0 m1 m2 m3 hW0 CT
 cases bt
 case false =>
  have HF:=hid (HS.out.trans (if_pos rfl))
  clear HS HTO
  go_wp2_with (first
   | (refine sR 31 4 14 HZ.out ?_)
   | fail)
  refine rtR Try.results12 Try.underlying31 (.int .i64 1) (HZ.out.row _) ?_
  rw [HF.out]
  exact ⟨_,rfl,SliceR.nil_ 0 (Nat.zero_le _) none,below_setRowB HB.out (Nat.le_succ _) _,zero_ok,by simp [zeroT,countS,countsS]⟩
 case true =>
 have HS:=hid (HS.out.trans (if_neg (by simp)))
 obtain ⟨p0,p4,hpo,htc⟩:=HTO.out rfl
 have HTC:=hid (And.intro hpo htc)
 clear HTO p0 p4 hpo htc
 go_wp2_with fail
 go_loopw [17] (fun i wr=>Below w1.heap.size w1 wr∧∃ k:Nat,k≤args.length∧i = .int .i64 k∧((args.take k).all fun a=>tmplS a 4) = true) (fun i _=>args.length - (intOf i).toNat)
 case atStart=>exact ⟨Below.refl _ _,0,Nat.zero_le _,rfl,by simp⟩
 case round =>
 obtain ⟨hbr,k,hk,rfl,hall⟩:=hrel
 have HBR:=hid hbr
 have HAK:=hid hall
 have HO:=hid (HO.out.below hbr)
 have HZ:=hid (HZ.out.below hbr)
 have HB:=hid (HB.out.trans (hbr.mono HB.out.size))
 have HV:=hid (HV.out.below hbr hbr.size)
 have HVA:=hid (HVA.out.below hbr hbr.size)
 clear hall hbr
 by_cases hlt:k < args.length
 ·have i0:(k:Int) < (args.length:Int):=by omega
  have i00:(0:Int)≤(k:Int):=by omega
  obtain ⟨_,_,rs,hq,_,_,hrd,hls⟩:=HVA.out
  cases hq
  obtain ⟨g2,o2,A2,c2,rs2,rfl,hg2,e0,e1,e2,e3,h64,h64',hts,q5,q6,hrd2,hls2⟩:=trees_at hrd hls hlt
  have HKV:Hid (SliceR treeE wr (Lt wr.heap.size) args[k].kids (.slice A2 args[k].kids.length c2)):=⟨_,_,rs2,rfl,q5,q6,hrd2,hls2⟩
  have HKO:Hid (NodeOk args[k]∧countS args[k]≤1000000):=⟨⟨h64,h64',hts⟩,HCA.out _ (List.getElem_mem hlt)⟩
  have HTK:=hid (all_take args k hlt HAK.out)
  have HNK:=hid (HALL.out k hlt)
  clear hrd hls hrd2 hls2 q5 q6 h64 h64' hts
  generalize args[k] = x at *
  go_upto_region 6 with (first
   | (refine sR 31 7 20 (HasObj.at0 _ _) ?_)
   | fail)
  generalize hX:World.setRow _ _ _ = X
  have hbx:=putB hX
  have HOX:=hid (put0 hX)
  have HBX:=hid hbx
  have CT:Hid (Calls Try.prog 17 #[.agg #[.int .i64 x.kind,.string x.text,.int .i64 x.cols,.slice A2 x.kids.length c2],.int .i64 4] X (BoolP X (tmplS x 4))):=template_any x A2 c2 4 X (HKV.out.below hbx hbx.size) HKO.out.1 HKO.out.2
  have HZ:=hid (HZ.out.below hbx)
  have HB:=hid (HB.out.trans (hbx.mono HB.out.size))
  generalize tmplS x 4 = bx at *
  clear hX hbx
  cases bx
  case false =>
   have HF:=hid (HS.out.trans (if_pos (HNK.out rfl)))
   clear HS HTK
   go_wp2_with (first
    | (refine sR 31 4 24 HZ.out ?_)
    | (refine lR 31 7 HOX.out Try.underlying31 ?_)
    | (go_at_call 17;refine Calls.mono CT.out ?_;rintro e w6 ⟨rfl,hb6⟩;have HZ:=hid (HZ.out.below hb6);have HB:=hid (HB.out.trans (hb6.mono HB.out.size));have HOX:=hid (HOX.out.below hb6);have HB6:=hid hb6;clear hb6)
    | fail)
   refine rtR Try.results12 Try.underlying31 (.int .i64 1) (HZ.out.row _) ?_
   rw [HF.out]
   exact ⟨_,rfl,SliceR.nil_ 0 (Nat.zero_le _) none,below_setRowB HB.out (Nat.le_succ _) _,zero_ok,by simp [zeroT,countS,countsS]⟩
  case true =>
   go_wp2_with (first
    | (refine lR 31 7 HOX.out Try.underlying31 ?_)
    | (go_at_call 17;refine Calls.mono CT.out ?_;rintro e w6 ⟨rfl,hb6⟩;have HZ:=hid (HZ.out.below hb6);have HB:=hid (HB.out.trans (hb6.mono HB.out.size));have HOX:=hid (HOX.out.below hb6);have HB6:=hid hb6;clear hb6)
    | fail)
   have HBY:=hid (HBR.out.trans ((HBX.out.trans (HB6.out.mono HBX.out.size)).mono HBR.out.size))
   go_roundw
   case rel=>exact ⟨HBY.out,k + 1,by omega,by go_num,HTK.out (by trivial)⟩
   case measure=>simp [intOf];omega
 ·have HT:args.take k = args:=List.take_of_length_le (by omega)
  rw [HT] at HAK
  have i0:¬ (k:Int) < (args.length:Int):=by omega
  have HS:=hid (HS.out.trans (if_neg (by rw [HAK.out];simp)))
  have HC9:Hid (∀ a ∈ args,countS a≤1000):=fun a ha=>(tmpl_ok (List.all_eq_true.1 HAK.out a ha)).2.2.2
  have hck:=countS_kids t
  have hfc:=fillL_cnt args HC9.out t.kids
  have HFC:Hid (countS (rowT (fillL args t.kids))≤1000000):=by show _≤_;rw [rowT,countS];have:=HTC.out.2;omega
  have hpk:plOks args.length t.kids = true:=by
   have h9:=HTC.out.1
   obtain ⟨a1,a2,a3,a4⟩:=t
   exact (plOk_kids h9).1
  have CF:Hid (Calls Try.prog 20 #[.slice A t.kids.length cap,.slice Aa args.length ca] wr (CopiesRes wr (fillL args t.kids))) :=
   fill_any args HC9.out (by omega) 1000 t.kids (by have:=HTC.out.2;omega) (Nat.le_refl _) wr A Aa cap ca HV.out HVA.out hpk
  obtain ⟨m0,m1,m2,m3⟩:=four9 HO.out
  clear hck hfc hpk HT
  generalize fillL args t.kids = L at *
  go_wp2_with fail
  refine CF.out.mono ?_
  rintro e w5 ⟨v5,rfl,ho5,hb5⟩
  obtain ⟨A5,c5,rfl⟩:=ho5.form
  have HR5:=hid ho5.rows
  have HBW:=hid HZ.out.lt
  have HZ:=hid (HZ.out.below hb5)
  have HB:=hid (HB.out.trans (hb5.mono HB.out.size))
  clear ho5 hb5 m0 m1 m2 m3
  go_upto_region 10 with (first
   | (refine sR 31 8 30 (HasObj.at0 _ _) ?_)
   | fail)
  generalize hX:World.setRow _ _ _ = X
  have hbx:=putB hX
  have HOX:=hid (put0 hX)
  have HR:=hid (HR5.out.keep (w':=X) (S':=fun q=>w.heap.size + 1 < q∧q < X.heap.size) (fun p hp=>hbx.cell hp.2) (fun q hq=>⟨Nat.lt_of_lt_of_le HBW.out hq.1,Nat.lt_of_lt_of_le hq.2 hbx.size⟩))
  have CT:Hid (Calls Try.prog 17 #[.agg #[.int .i64 1,.string ⟨#[]⟩,.int .i64 0,.slice A5 L.length c5],.int .i64 4] X (BoolP X (tmplS (rowT L) 4))):=template_any (rowT L) A5 c5 4 X (HR.out.keep (fun _ _=>rfl) (fun q hq=>hq.2)) ⟨by simp [In64,rowT,Tree.kind],by simp [In64,rowT,Tree.cols],Nat.zero_le _⟩ HFC.out
  have HZ:=hid (HZ.out.below hbx)
  have HB:=hid (HB.out.trans (hbx.mono HB.out.size))
  generalize tmplS (rowT L) 4 = bx at *
  clear hX hbx
  cases bx
  case false =>
   have HF:=hid (HS.out.trans (if_pos rfl))
   clear HS
   go_wp2_with (first
    | (refine sR 31 4 34 HZ.out ?_)
    | (refine lR 31 8 HOX.out Try.underlying31 ?_)
    | (go_at_call 17;refine Calls.mono CT.out ?_;rintro e w6 ⟨rfl,hb6⟩;have HZ:=hid (HZ.out.below hb6);have HB:=hid (HB.out.trans (hb6.mono HB.out.size));have HOX:=hid (HOX.out.below hb6);have HB6:=hid hb6;clear hb6)
    | fail)
   refine rtR Try.results12 Try.underlying31 (.int .i64 6) (HZ.out.row _) ?_
   rw [HF.out]
   exact ⟨_,rfl,SliceR.nil_ 0 (Nat.zero_le _) none,below_setRowB HB.out (Nat.le_succ _) _,zero_ok,by simp [zeroT,countS,countsS]⟩
  case true =>
   have HF:=hid (HS.out.trans (if_neg (by simp)))
   clear HS
   go_wp2_with (first
    | (refine lR 31 8 HOX.out Try.underlying31 ?_)
    | (go_at_call 17;refine Calls.mono CT.out ?_;rintro e w6 ⟨rfl,hb6⟩;have HZ:=hid (HZ.out.below hb6);have HB:=hid (HB.out.trans (hb6.mono HB.out.size));have HOX:=hid (HOX.out.below hb6);have HB6:=hid hb6;clear hb6)
    | (refine sR 31 4 35 HZ.out ?_)
    | fail)
   have HR:=hid (HR.out.keep (w':=w6) (S':=fun q=>w.heap.size + 1 < q∧q < w6.heap.size) (fun p hp=>HB6.out.cell hp.2) (fun q hq=>⟨hq.1,Nat.lt_of_lt_of_le hq.2 HB6.out.size⟩))
   refine rtR Try.results12 Try.underlying31 (.int .i64 0) (HZ.out.row _) ?_
   rw [HF.out]
   exact ⟨_,rfl,HR.out.keep (fun p hp=>World.cell?_of_block (setRow_other _ _ _ _ (by have h9:=hp.1;omega))) (fun q hq=>⟨by have h9:=hq.1;omega,by rw [size_setRow];exact hq.2⟩),below_setRowB HB.out (Nat.le_succ _) _,⟨by simp [In64,rowT,Tree.kind],by simp [In64,rowT,Tree.cols],Nat.zero_le _⟩,HFC.out⟩
end Go.Proofs.Ythpngeboknmllaa
