/- Texts put together. -/
import Derived.Test.YtbjcioknfjofkaaGreatQ5a422e823d
import Derived.Test.YtbjcioknfjofkaaGreatQb423201e5f
import Derived.BigRegion
import Derived.Deep.CutBlock
import Derived.Deep.DeepCutAuto
set_option linter.unusedVariables false
set_option linter.unusedSimpArgs false
set_option maxRecDepth 100000
namespace Go.Proofs.YtbjcioknfjofkaaGreat
open Go.RowKit
theorem zLy {w:World} (d:StD) (h:StR w d) (back:Bool) (nx:Int) (hnx:nx = if back then d.o - 1 else d.o) :
  (0≤nx∧nx < d.its.length→zCf (zD8 d.its nx.toNat).kids 0 (-1) = false→zD2 d.t d.p d.m back = zD9 d.t d.p d.m [zBs d.q nx [zD8 d.its nx.toNat]] (d.q ++ [nx]) []) ∧
  (0≤nx∧nx < d.its.length→zCf (zD8 d.its nx.toNat).kids 0 (-1) = true→zD2 d.t d.p d.m back = zEj d.t d.p d.m back) ∧
  (¬ (0≤nx∧nx < d.its.length)→d.ar = true→zCf d.it.kids 0 d.s = false→zD2 d.t d.p d.m back = zD9 d.t d.p d.m [⟨4,d.q2,d.i,d.its.length,[zAr d.it d.s.toNat []],d.s,noT,noT⟩] (d.q2 ++ [if back then d.i else d.i + d.its.length]) []) ∧
  (¬ (0≤nx∧nx < d.its.length)→d.ar = true→zCf d.it.kids 0 d.s = true→zD2 d.t d.p d.m back = zEj d.t d.p d.m back) ∧
  (¬ (0≤nx∧nx < d.its.length)→d.ar = false→zD2 d.t d.p d.m back = zEj d.t d.p d.m back):=by
 have e1:d.p.dropLast = d.q:=by rw [h.pe];simp
 have e2:d.p.getLastD 0 = d.o:=by rw [h.pe];simp
 have e3:(zAg d.t d.q).1.kids = d.its:=h.ie.symm
 unfold zD2
 simp only [e1,e2,e3,← hnx]
 refine ⟨fun h1 h2=>?_,fun h1 h2=>?_,fun h1 h2 h3=>?_,fun h1 h2 h3=>?_,fun h1 h2=>?_⟩
 ·rw [if_pos h1,if_pos h2];rfl
 ·rw [if_pos h1,if_neg (by rw [h2];decide)]
 ·obtain ⟨a1,a2,a3,a4,s',a5,a6,a7⟩:=h.ar1 h2
  rw [if_neg h1,a1]
  simp only
  rw [if_pos h3]
  have hk:(kidS d.it d.s).kids = d.its:=by rw [zBy (by rw [a5];simpa using a6)];simp only [a5,Int.toNat_natCast];rw [a7];rfl
  unfold unwS
  simp only [hk]
  rfl
 ·obtain ⟨a1,_⟩:=h.ar1 h2
  rw [if_neg h1,a1]
  simp only
  rw [if_neg (by rw [h3];decide)]
 ·rw [if_neg h1,h.ar0 h2]
set_option maxHeartbeats 16000000 in
theorem zO7 (d:StD) (back:Bool) (w:World) (h:StR w d) :
  Calls Tryz.prog 44 #[.agg (stC d),.int .i64 (if back then -1 else 1)] w (RecF w (zD2 d.t d.p d.m back)):=by
 obtain ⟨nx,hnx⟩:∃ nx,nx = if back then d.o - 1 else d.o:=⟨_,rfl⟩
 obtain ⟨sg,hsg⟩:∃ sg:Int,sg = if back then -1 else 1:=⟨_,rfl⟩
 obtain ⟨fn,hfn⟩:∃ fn,fn = if back then 76 else 75:=⟨_,rfl⟩
 rw [← hsg]
 obtain ⟨SR,hSR⟩:∃ SR,SR = zDy d.t d.p (if back then -1 else 1):=⟨_,rfl⟩
 have HC:=hid (zLy d h back nx hnx)
 have HSE:Hid (zEj d.t d.p d.m back = if SR.2≠0 then (recZ,SR.2) else zD9 d.t d.p d.m [] SR.1 []):=by show _ = _;unfold zEj;rw [← hSR];rfl
 have HSL:Hid (SR.1.length≤24):=by show _≤_;rw [hSR];exact step_len (zJ3 h).1
 have HST:=hid h
 have HF:=hid (zJ3 h)
 have HAR:=hid h.ar1
 have CD:Hid (∀ W B ops pos,Below w.heap.size w W→∀ w0,BA w0 W B (stC d) ops pos []→ops.length≤1000→Calls Tryz.prog 43 #[.pointer (some ⟨B,0,none⟩)] W (RecF w0 (zD9 d.t d.p d.m ops pos []))):=fun W B ops pos hW w0 hb hol=>zPi h hW hb hol
 have CS:Hid (∀ W,Below w.heap.size w W→Calls Tryz.prog fn #[.agg #[.int .i64 d.t.kind,.string d.t.text,.int .i64 d.t.cols,.slice d.A d.t.kids.length d.cap],.slice d.Ap d.p.length d.cp] W (zIt W SR)):=fun W hW=>by
  rw [hSR,hfn]
  cases back
  ·have h9:=next_any d.t d.p d.A d.cap _ W (h.bl hW).tk h.tok.2.2 (h.bl hW).p
   rw [next_eq] at h9
   exact h9
  ·have h9:=prev_any d.t d.p d.A d.cap _ W (h.bl hW).tk h.tok.2.2 (h.bl hW).p
   rw [prev_eq] at h9
   exact h9
 have HN:=hid hnx
 have HSG:=hid hsg
 have HFN:=hid hfn
 obtain ⟨t,A,cap,p,Ap,cp,m,Am,cm,rr,Ar,cr,ra,rb,q,A1,c1,o,its,Ai,ci,ar,q2,A2,c2,i,s,it,A3,c3⟩:=d
 simp only [stC] at *
 generalize zD2 t p m back = RES at *
 generalize zEj t p m back = RSE at *
 have v1:IntKind.i64.wrap (o - 1) = o - 1:=by have:=HF.out;exact IntWalk.i64_in _ (by omega)
 obtain ⟨W0,hW0⟩:∃ W0,(w.alloc (.cells #[.int .i64 t.kind,.string t.text,.int .i64 t.cols,.slice A t.kids.length cap,.slice Ap p.length cp,.slice Am m.length cm,.slice Ar rr.length cr,.int .i64 ra,.int .i64 rb,.slice A1 q.length c1,.int .i64 o,.slice Ai its.length ci,.bool ar,.slice A2 q2.length c2,.int .i64 i,.int .i64 s,.int .i64 it.kind,.string it.text,.int .i64 it.cols,.slice A3 it.kids.length c3] 73)).alloc (.cells #[.slice none 0 0,.slice none 0 0,.slice none 0 0,.slice none 0 0,.slice none 0 0] 36) = W0:=⟨_,rfl⟩
 have HB0:Hid (Below w.heap.size w W0):=by show Below _ _ _;rw [← hW0];exact zAp (blA _ _) _
 have HOS:Hid (zAc W0 w.heap.size (.cells #[.int .i64 t.kind,.string t.text,.int .i64 t.cols,.slice A t.kids.length cap,.slice Ap p.length cp,.slice Am m.length cm,.slice Ar rr.length cr,.int .i64 ra,.int .i64 rb,.slice A1 q.length c1,.int .i64 o,.slice Ai its.length ci,.bool ar,.slice A2 q2.length c2,.int .i64 i,.int .i64 s,.int .i64 it.kind,.string it.text,.int .i64 it.cols,.slice A3 it.kids.length c3] 73)):=by show zAc _ _ _;rw [← hW0];exact (zAc.at0 _ _).al _
 have HOR:Hid (zAc W0 (w.heap.size + 1) (.cells #[.slice none 0 0,.slice none 0 0,.slice none 0 0,.slice none 0 0,.slice none 0 0] 36)):=by show zAc _ _ _;rw [← hW0];exact zAc.at1 _ _ _
 obtain ⟨s0,s1,s2,s3,s4,s5,s6,s7,s8,s9,s10,s11,s12,s13,s14,s15,s16,s17,s18,s19⟩:=zHd HOS.out
 have i1:decide (sg < 0) = back:=by rw [hsg];cases back <;> rfl
 clear h hnx hSR hsg hfn
 go_enter Tryz.func44,Tryz.ntmps44
 go_upto_if 16 with fail
 clear hW0
 go_cut [6,7] from 13 to 19 (fun n s wx=>n = .int .i64 nx∧s = .func (.func fn) #[] #[]∧wx = W0)
 case first =>
  have h2:=HN.out
  have h3:=HFN.out
  cases back
  ·go_wp2_with fail
   go_meet
   simp at h2 h3
   exact ⟨by rw [h2],by rw [h3],rfl⟩
  ·go_wp2_with fail
   go_meet
   simp at h2 h3
   exact ⟨by rw [h2],by rw [h3],rfl⟩
 case rest =>
 obtain ⟨rfl,rfl,hwc⟩:=hcut
 rw [hwc]
 clear hwc
 clear v1 HN
 go_upto_region 5 with fail
 go_cut [8] from 20 to 28 (fun b wx=>b = .bool (decide (0≤nx∧nx < (its.length:Int)))∧wx = W0)
 case first =>
  by_cases h1:0≤nx
  ·have i1:decide (0≤nx) = true:=decide_eq_true h1
   by_cases h2:nx < (its.length:Int)
   ·have i2:decide (nx < (its.length:Int)) = true:=decide_eq_true h2
    go_wp2_with fail
    go_meet
    exact ⟨congrArg Value.bool (decide_eq_true (by omega)).symm,rfl⟩
   ·have i2:decide (nx < (its.length:Int)) = false:=decide_eq_false h2
    go_wp2_with fail
    go_meet
    exact ⟨congrArg Value.bool (decide_eq_false (by omega)).symm,rfl⟩
  ·have i1:decide (0≤nx) = false:=decide_eq_false h1
   go_wp2_with fail
   go_meet
   exact ⟨congrArg Value.bool (decide_eq_false (by omega)).symm,rfl⟩
 case rest =>
 obtain ⟨rfl,hwc⟩:=hcut
 rw [hwc]
 clear hwc
 generalize hbT:decide (0≤nx∧nx < (its.length:Int)) = bT
 go_upto_block 0 with fail
 go_cut [8] from 29 to 98 (fun _ wx=>Below W0.heap.size W0 wx∧RES = RSE)
 case first =>
  rename_i J9 K9 m9 a9
  cases bT
  case true =>
   have hA:=of_decide_eq_true hbT
   obtain ⟨k,rfl⟩:∃ k:Nat,nx = (k:Int):=⟨nx.toNat,by omega⟩
   have hk:k < its.length:=by omega
   have hie:zD8 its (k:Int).toNat = its[k]:=by simp [zD8,hk]
   have hc1:=HC.out.1 hA
   have hc2:=HC.out.2.1 hA
   rw [hie] at hc1 hc2
   have HC1:=hid hc1
   have HC2:=hid hc2
   obtain ⟨_,_,rs,hq,hic,him,hrd,hls⟩:=(HST.out.bl HB0.out).its
   cases hq
   obtain ⟨gx,ox,Bx,bx,rs2,rfl,hgx,x0,x1,x2,x3,_,_,_,hx5,hx6,hrx,hlx⟩:=zAy hrd hls hk
   have CX:=hid (zIm its[k] Bx bx (-1) W0 ⟨_,_,rs2,rfl,hx5,hx6,hrx,hlx⟩)
   obtain ⟨Ac,hsl,hcut⟩:=zIj zAb Tryz.underlying22 zCp (some ⟨gx,ox,none⟩) its.length ci (k:Int) ((k:Int) + 1) k (k + 1) rfl (by omega) (by omega) (by omega) hic
   rw [Nat.add_sub_cancel_left] at hsl hcut
   have HCUT:Hid (∀ W,Below w.heap.size w W→zAa zAb W (Lt W.heap.size) [its[k]] (.slice Ac 1 (ci - k))):=fun W hW=>by
    have h9:=hcut W (Lt W.heap.size) its (HST.out.bl hW).its
    rwa [show (its.take (k + 1)).drop k = [its[k]] by rw [List.drop_take];rw [Nat.add_sub_cancel_left,List.drop_eq_getElem_cons hk];rfl] at h9
   have i0:(0:Int)≤(k:Int):=by omega
   have i1:(k:Int) < (its.length:Int):=by omega
   have i2:(k:Int)≤(k:Int) + 1:=by omega
   have i3:(k:Int) + 1≤(its.length:Int):=by omega
   have v2:IntKind.i64.wrap ((k:Int) + 1) = (k:Int) + 1:=by have:=HF.out;exact IntWalk.i64_in _ (by omega)
   have HXC:Hid (zAd [its[k]]≤1000000∧(k:Int)≤1000):=⟨by
    have h1:=zBa hk
    have h2:=zAo its (k + 1)
    have:=HF.out
    simp only [zAd];omega,by have:=HF.out;omega⟩
   clear hc1 hc2 hrd hls hrx hlx hx5 hx6 hcut HC hie hbT hA
   generalize its[k] = x at *
   generalize hb9:zCf x.kids 0 (-1) = b9 at *
   go_wp2_with fail
   refine CX.out.mono ?_
   rintro e w5 ⟨rfl,hb5⟩
   have HB5:=hid (HB0.out.trans (hb5.mono HB0.out.size))
   have HOS5:=hid (HOS.out.below hb5)
   have HOR5:=hid (HOR.out.below hb5)
   have HB05:=hid hb5
   clear hb5 x0 x1 x2 x3 s0 s1 s2 s3 s4 s5 s6 s7 s8 s9 s10 s11 s12 s13 s14 s15 s16 s17 s18 s19 HOS HOR CX
   obtain ⟨s0,s1,s2,s3,s4,s5,s6,s7,s8,s9,s10,s11,s12,s13,s14,s15,s16,s17,s18,s19⟩:=zHd HOS5.out
   cases b9
   case true =>
    go_wp2_with fail
    go_meet
    exact ⟨HB05.out,HC2.out (by trivial)⟩
   case false =>
   clear m9 a9
   have HRES:=hid (HC1.out (by trivial))
   have s9a:∀ o,(w5.alloc o).cell? ⟨w.heap.size,9,none⟩ = some (.slice A1 q.length c1):=fun o=>((blA w5 o).cell (zBd s9)).trans s9
   have s11a:∀ o,(w5.alloc o).cell? ⟨w.heap.size,11,none⟩ = some (.slice (some ⟨gx,ox,none⟩) its.length ci):=fun o=>((blA w5 o).cell (zBd s11)).trans s11
   go_upto_region 7 with fail
   go_region
   obtain ⟨wb,hwb⟩:∃ wb,(w5.alloc (.cells #[.int .i64 2,.slice A1 q.length c1,.int .i64 (k:Int),.int .i64 0,.slice Ac 1 (ci - k),.int .i64 0,.string ⟨#[]⟩,.string ⟨#[]⟩] 67)).drew = wb:=⟨_,rfl⟩
   rw [hwb]
   have hb6:Below w5.heap.size w5 wb:=by rw [← hwb];exact Below.drew (blA _ _)
   have HOD:Hid (zAc wb w5.heap.size (.cells #[.int .i64 2,.slice A1 q.length c1,.int .i64 (k:Int),.int .i64 0,.slice Ac 1 (ci - k),.int .i64 0,.string ⟨#[]⟩,.string ⟨#[]⟩] 67)):=by show zAc _ _ _;rw [← hwb];exact (zAc.at0 _ _).dr
   have HOSB:=hid (HOS5.out.below hb6)
   have HG:=hid (HOR5.out.below hb6)
   have HWB:=hid (HB5.out.trans (hb6.mono HB5.out.size))
   have HSB:=hid (HST.out.bl HWB.out)
   have HO:Hid (zAh wb (NF (fun _=>False) wb) q (.slice A1 q.length c1)∧zAa zAb wb (NF (fun _=>False) wb) [x] (.slice Ac 1 (ci - k))):=⟨HSB.out.q.keep (fun _ _=>rfl) (fun k hk=>⟨hk,id⟩),(HCUT.out wb HWB.out).keep (fun _ _=>rfl) (fun k hk=>⟨hk,id⟩)⟩
   have HK64:Hid (∀ i ∈ [(k:Int)],In64 i):=fun i hi=>by rw [List.mem_singleton.1 hi];exact zA2 (by have:=HXC.out;omega)
   have HL:Hid (q.length + [(k:Int)].length≤100000):=by have:=HF.out;show _ + 1≤_;omega
   have HSD:Hid (q.length≤1000000∧zAd [x]≤1000000):=⟨by have:=HF.out;omega,HXC.out.1⟩
   have HW:Hid (Below wb.heap.size wb wb):=hid (Below.refl _ _)
   have HDN:=hid (fun W B (hW:Below wb.heap.size wb W) hb=>(CD.out W B [zBs q (k:Int) [x]] (q ++ [(k:Int)]) (HWB.out.trans (hW.mono HWB.out.size)) wb hb (by simp)).mono (fun e w' (h:RecF wb _ e w')=>(by rw [HRES.out];exact h:RecF wb RES e w')))
   have HNE:Hid (w5.heap.size≠w.heap.size + 1):=by have:=HOR5.out.lt;show _≠_;omega
   clear hb6 hwb s9a s11a i0 i1 i2 i3 v2 hsl s0 s1 s2 s3 s4 s5 s6 s7 s8 s9 s10 s11 s12 s13 s14 s15 s16 s17 s18 s19
   go_upto_region 8 with fail
   refine wp_region_noPanic ?_
   refine wp_region_held_drew (S:=fun w'=>Kept (fun k=>k = w.heap.size + 1) wb w') (by kernel_rfl) (kwt HW.out) (fun hHeld=>?_)
   refine wpAnyH_take (i:=0) (oi:=⟨some 50,_,_,_,_,_⟩) (v:=_) rfl (by kernel_rfl) (by kernel_rfl) (by kernel_rfl) (fun _ _ _ h=>h) (zB6 73 (.tmp 2) rfl (by rfl) _ rfl (fun w hS=>hS.obj HOSB.out (Nat.ne_of_lt (Nat.lt_succ_self _))) Tryz.underlying73 (by kernel_rfl)) hHeld ?_
   try simp only [Act.put,List.setIfInBounds_toArray,List.set_cons_zero,List.set_cons_succ]
   refine wpAnyH_take (i:=2) (oi:=⟨some 52,_,_,_,_,_⟩) (v:=_) rfl (by kernel_rfl) (by kernel_rfl) (by kernel_rfl) (fun _ _ _ h=>h) (zB6 67 (.tmp 9) rfl (by rfl) _ rfl (fun w hS=>hS.obj HOD.out HNE.out) Tryz.underlying67 (by kernel_rfl)) hHeld ?_
   try simp only [Act.put,List.setIfInBounds_toArray,List.set_cons_zero,List.set_cons_succ]
   refine wpAnyH_take (i:=4) (oi:=⟨some 54,_,_,_,_,_⟩) (v:=_) rfl (by kernel_rfl) (by kernel_rfl) (by kernel_rfl) (fun _ _ _ h=>h) (Or.inl ⟨by rfl,fun w hS=>by clear hS;go_simp;try with_reducible rfl⟩) hHeld ?_
   try simp only [Act.put,List.setIfInBounds_toArray,List.set_cons_zero,List.set_cons_succ]
   refine wpAnyH_take (i:=5) (oi:=⟨some 55,_,_,_,_,_⟩) (v:=_) rfl (by kernel_rfl) (by kernel_rfl) (by kernel_rfl) (fun _ _ _ h=>h) (Or.inl ⟨by rfl,fun W hS=>by have h:W.cell? ⟨w.heap.size,9,none⟩ = some (.slice A1 q.length c1):=(hS.obj HOSB.out (Nat.ne_of_lt (Nat.lt_succ_self _))).cell 9;clear hS;go_simp;try with_reducible rfl⟩) hHeld ?_
   try simp only [Act.put,List.setIfInBounds_toArray,List.set_cons_zero,List.set_cons_succ]
   refine wpAnyH_take (i:=6) (oi:=⟨some 56,_,_,_,_,_⟩) (v:=_) rfl (by kernel_rfl) (by kernel_rfl) (by kernel_rfl) (fun _ _ _ h=>h) (Or.inl ⟨by rfl,fun w hS=>by clear hS;go_simp;try with_reducible rfl⟩) hHeld ?_
   try simp only [Act.put,List.setIfInBounds_toArray,List.set_cons_zero,List.set_cons_succ]
   refine wpAnyH_ready (rs:=[1,7]) (by kernel_rfl) (by simp) ?_
   refine (AllReadyH.cons (o:=⟨some 51,_,_,_,_,_⟩) rfl (fun K hK=>?_) (AllReadyH.cons (o:=⟨some 57,_,_,_,_,_⟩) rfl (fun K hK=>?_) AllReadyH.nil))
   go_simp
   refine Calls.mono (zEx _ _ _ _ _ _ _ _ _ _ _ _ _ _ _ _ _ _ _ _ wb _ (bwt HW.out)) ?_
   rintro e wk ⟨B,F,rfl,hbs,hst⟩
   try have HO:=hid (And.intro (hst.keep (zBo bw HO.out.1)) (hst.keep (zBo bw HO.out.2)))
   try have HR:=hid (Stp.keep hst (zBo bw HR.out))
   have HB:=hid hbs
   have HBO:=HB
   have HW:=hid hbs.below
   clear hst hbs
   refine hK.out _ _ (kwt HW.out) (fun hHeld=>?_)
   clear hK K
   try simp only [Act.put,List.setIfInBounds_toArray,List.set_cons_zero,List.set_cons_succ]
   refine wpAnyH_ready (rs:=[3,7]) (by kernel_rfl) (by simp) ?_
   refine (AllReadyH.cons (o:=⟨some 53,_,_,_,_,_⟩) rfl (fun K hK=>?_) (AllReadyH.cons (o:=⟨some 57,_,_,_,_,_⟩) rfl (fun K hK=>?_) AllReadyH.nil))
   go_simp
   refine Calls.mono (zIp (HB.out.bl bw) (zBs q (k:Int) [x]) _ _ _ _ (by simp) (zC5 (zBo bw HO.out.1)) (zC5 (zBo bw HO.out.2)) HSD.out.1 HSD.out.2 (by simp [zBs,In64]) (HK64.out _ (List.mem_singleton.2 rfl)) (by simp [zBs,In64]) (by simp [zBs,In64]) (Nat.zero_le _) (Nat.zero_le _)) ?_
   rintro e wk ⟨F,rfl,hbs,hst⟩
   try have HR:=hid (Stp.keep hst (zBo bw HR.out))
   have HB:=hid hbs
   have HBO:=HB
   have HW:=hid hbs.below
   clear hst hbs
   refine hK.out _ _ (kwt HW.out) (fun hHeld=>?_)
   clear hK K
   try simp only [Act.put,List.setIfInBounds_toArray,List.set_cons_zero,List.set_cons_succ]
   refine wpAnyH_ready (rs:=[7]) (by kernel_rfl) (by simp) ?_
   refine (AllReadyH.cons (o:=⟨some 57,_,_,_,_,_⟩) rfl (fun K hK=>?_) AllReadyH.nil)
   go_simp
   refine hK.out _ _ (kwt HW.out) (fun hHeld=>?_)
   clear hK K
   try simp only [Act.put,List.setIfInBounds_toArray,List.set_cons_zero,List.set_cons_succ]
   refine wpAnyH_ready (rs:=[8]) (by kernel_rfl) (by simp) ?_
   refine (AllReadyH.cons (o:=⟨some 58,_,_,_,_,_⟩) rfl (fun K hK=>?_) AllReadyH.nil)
   go_simp
   refine Calls.mono (zHc (HB.out.bl bw) q [(k:Int)] _ _ _ _ (HSB.out.q.below (bwt HW.out) (bwt HW.out).size) (zNu _ [(k:Int)] _ (HK64.out) (by simp [maxLen])) (HL.out)) ?_
   rintro e wk ⟨rfl,hba⟩
   have HB:=hid hba
   have HW:=hid hba.below
   clear hba
   refine hK.out _ _ (kwt HW.out) (fun hHeld=>?_)
   clear hK K
   try simp only [Act.put,List.setIfInBounds_toArray,List.set_cons_zero,List.set_cons_succ]
   rotate_left
   go_simp
   refine hK.out _ _ (kwt HW.out) (fun hHeld=>?_)
   clear hK K
   try simp only [Act.put,List.setIfInBounds_toArray,List.set_cons_zero,List.set_cons_succ]
   refine wpAnyH_ready (rs:=[3]) (by kernel_rfl) (by simp) ?_
   refine (AllReadyH.cons (o:=⟨some 53,_,_,_,_,_⟩) rfl (fun K hK=>?_) AllReadyH.nil)
   go_simp
   refine Calls.mono (zIp (HB.out.bl bw) (zBs q (k:Int) [x]) _ _ _ _ (by simp) (zC5 (zBo bw HO.out.1)) (zC5 (zBo bw HO.out.2)) HSD.out.1 HSD.out.2 (by simp [zBs,In64]) (HK64.out _ (List.mem_singleton.2 rfl)) (by simp [zBs,In64]) (by simp [zBs,In64]) (Nat.zero_le _) (Nat.zero_le _)) ?_
   rintro e wk ⟨F,rfl,hbs,hst⟩
   have HR:=hid (zGm [(k:Int)] (HK64.out) (by simp [maxLen]) ((BS.bl HBO.out bw).hi) hst)
   have HB:=hid hbs
   have HBO:=HB
   have HW:=hid hbs.below
   clear hst hbs
   refine hK.out _ _ (kwt HW.out) (fun hHeld=>?_)
   clear hK K
   try simp only [Act.put,List.setIfInBounds_toArray,List.set_cons_zero,List.set_cons_succ]
   refine wpAnyH_ready (rs:=[8]) (by kernel_rfl) (by simp) ?_
   refine (AllReadyH.cons (o:=⟨some 58,_,_,_,_,_⟩) rfl (fun K hK=>?_) AllReadyH.nil)
   go_simp
   refine Calls.mono (zHc (HB.out.bl bw) q [(k:Int)] _ _ _ _ (HSB.out.q.below (bwt HW.out) (bwt HW.out).size) (zC5 (zBo bw HR.out)) (HL.out)) ?_
   rintro e wk ⟨rfl,hba⟩
   have HB:=hid hba
   have HW:=hid hba.below
   clear hba
   refine hK.out _ _ (kwt HW.out) (fun hHeld=>?_)
   clear hK K
   try simp only [Act.put,List.setIfInBounds_toArray,List.set_cons_zero,List.set_cons_succ]
   rotate_left
   go_simp
   refine hK.out _ _ (kwt HW.out) (fun hHeld=>?_)
   clear hK K
   try simp only [Act.put,List.setIfInBounds_toArray,List.set_cons_zero,List.set_cons_succ]
   refine wpAnyH_ready (rs:=[1]) (by kernel_rfl) (by simp) ?_
   refine (AllReadyH.cons (o:=⟨some 51,_,_,_,_,_⟩) rfl (fun K hK=>?_) AllReadyH.nil)
   go_simp
   refine Calls.mono (zEx _ _ _ _ _ _ _ _ _ _ _ _ _ _ _ _ _ _ _ _ wb _ (bwt HW.out)) ?_
   rintro e wk ⟨B,F,rfl,hbs,hst⟩
   try have HO:=hid (And.intro (hst.keep (zBo bw HO.out.1)) (hst.keep (zBo bw HO.out.2)))
   have HR:=hid (zJ6 [(k:Int)] (HK64.out) (by simp [maxLen]) (fun _ h=>False.elim h) hst)
   have HB:=hid hbs
   have HBO:=HB
   have HW:=hid hbs.below
   clear hst hbs
   refine hK.out _ _ (kwt HW.out) (fun hHeld=>?_)
   clear hK K
   try simp only [Act.put,List.setIfInBounds_toArray,List.set_cons_zero,List.set_cons_succ]
   refine wpAnyH_ready (rs:=[3]) (by kernel_rfl) (by simp) ?_
   refine (AllReadyH.cons (o:=⟨some 53,_,_,_,_,_⟩) rfl (fun K hK=>?_) AllReadyH.nil)
   go_simp
   refine Calls.mono (zIp (HB.out.bl bw) (zBs q (k:Int) [x]) _ _ _ _ (by simp) (zC5 (zBo bw HO.out.1)) (zC5 (zBo bw HO.out.2)) HSD.out.1 HSD.out.2 (by simp [zBs,In64]) (HK64.out _ (List.mem_singleton.2 rfl)) (by simp [zBs,In64]) (by simp [zBs,In64]) (Nat.zero_le _) (Nat.zero_le _)) ?_
   rintro e wk ⟨F,rfl,hbs,hst⟩
   try have HR:=hid (Stp.keep hst (zBo bw HR.out))
   have HB:=hid hbs
   have HBO:=HB
   have HW:=hid hbs.below
   clear hst hbs
   refine hK.out _ _ (kwt HW.out) (fun hHeld=>?_)
   clear hK K
   try simp only [Act.put,List.setIfInBounds_toArray,List.set_cons_zero,List.set_cons_succ]
   refine wpAnyH_ready (rs:=[8]) (by kernel_rfl) (by simp) ?_
   refine (AllReadyH.cons (o:=⟨some 58,_,_,_,_,_⟩) rfl (fun K hK=>?_) AllReadyH.nil)
   go_simp
   refine Calls.mono (zHc (HB.out.bl bw) q [(k:Int)] _ _ _ _ (HSB.out.q.below (bwt HW.out) (bwt HW.out).size) (zC5 (zBo bw HR.out)) (HL.out)) ?_
   rintro e wk ⟨rfl,hba⟩
   have HB:=hid hba
   have HW:=hid hba.below
   clear hba
   refine hK.out _ _ (kwt HW.out) (fun hHeld=>?_)
   clear hK K
   try simp only [Act.put,List.setIfInBounds_toArray,List.set_cons_zero,List.set_cons_succ]
   rotate_left
   all_goals
    refine wpAnyH_ready (rs:=[9]) (by kernel_rfl) (by simp) ?_
    refine (AllReadyH.cons (o:=⟨some 59,_,_,_,_,_⟩) rfl (fun K hK=>?_) AllReadyH.nil)
    go_simp
    refine Calls.mono (HDN.out _ _ (bwt HW.out) (HB.out.bl bw)) ?_
    rintro e wk hrec
    have HREC:=hid hrec
    obtain ⟨Ao9,co9,Ap9,cp9,Am9,cm9,Aap9,cap9,Aam9,cam9,rfl,_,_,_,_,_,hbw⟩:=hrec
    have HW:=hid hbw
    have HGW:=hid (HG.out.below hbw)
    clear hbw
    refine hK.out _ _ (kwt HW.out) (fun hHeld=>?_)
    clear hK K
    try simp only [Act.put,List.setIfInBounds_toArray,List.set_cons_zero,List.set_cons_succ]
    refine wpAnyH_take (i:=10) (oi:=⟨some 60,_,_,_,_,_⟩) (v:=_) rfl (by kernel_rfl) (by kernel_rfl) (by kernel_rfl) (fun _ _ _ h=>h) (Or.inl ⟨by rfl,fun w hS=>by clear hS;go_simp;try with_reducible rfl⟩) hHeld ?_
    try simp only [Act.put,List.setIfInBounds_toArray,List.set_cons_zero,List.set_cons_succ]
    refine wpAnyH_take (i:=11) (oi:=⟨some 61,_,_,_,_,_⟩) (v:=_) rfl (by kernel_rfl) (by kernel_rfl) (by kernel_rfl) (fun _ _ _ h=>h) (Or.inl ⟨by rfl,fun w hS=>by clear hS;go_simp;try with_reducible rfl⟩) hHeld ?_
    try simp only [Act.put,List.setIfInBounds_toArray,List.set_cons_zero,List.set_cons_succ]
    refine wpAnyH_ready (rs:=[12]) (by kernel_rfl) (by simp) ?_
    refine (AllReadyH.cons (o:=⟨none,_,_,_,_,_⟩) rfl (fun K hK=>?_) AllReadyH.nil)
    rw [if_pos (by rfl)]
    refine wp_store_row 36 (.tmp 4) (.tmp 60) rfl (w.heap.size + 1) #[.slice Ao9 RES.1.ops.length co9,.slice Ap9 RES.1.bp.length cp9,.slice Am9 RES.1.bm.length cm9,.slice Aap9 RES.1.ap.length cap9,.slice Aam9 RES.1.am.length cam9] rfl rfl 36 _ HGW.out (by kernel_rfl) (by simp) (by simp [Value.oneCell']) ?_
    refine zCq HGW.out (fun X9 HX9=>?_)
    refine hK.out _ _ ((kwt HW.out).trans' HX9.out.1) (fun hHeld=>?_)
    clear hK K
    try simp only [Act.put,List.setIfInBounds_toArray,List.set_cons_zero,List.set_cons_succ]
    refine wpAnyH_take (i:=13) (oi:=⟨some 5,_,_,_,_,_⟩) (v:=_) rfl (by kernel_rfl) (by kernel_rfl) (by kernel_rfl) (fun _ _ _ h=>h) (Or.inl ⟨by rfl,fun w hS=>by clear hS;go_simp;try with_reducible rfl⟩) hHeld ?_
    try simp only [Act.put,List.setIfInBounds_toArray,List.set_cons_zero,List.set_cons_succ]
    refine wpAnyH_done (by kernel_rfl) ?_ _
    refine NoPanic.normal ?_
   all_goals
    refine (‹∀ (a:Act) (w_1:World),Code.wp Tryz.prog Code.ret (Exit.inBlock 0 (Exit.then K9 (bodyPost Tryz.prog Tryz.f44 (RecF w RES)))) a w_1→_›) _ _ (wp_ret ?_)
    refine bodyPost_ret (v:=.tuple #[.agg #[.slice Ao9 RES.1.ops.length co9,.slice Ap9 RES.1.bp.length cp9,.slice Am9 RES.1.bm.length cm9,.slice Aap9 RES.1.ap.length cap9,.slice Aam9 RES.1.am.length cam9],.int .i64 RES.2]) (zAj Tryz.results44 _ _ _ (w.heap.size + 1) 36 _ (0,0) _ rfl HX9.out.2.1 rfl Tryz.underlying36 (by kernel_rfl) _ rfl) rfl ?_
    exact RecF.put (arr:=#[]) HREC.out HGW.out HX9.out.1 HX9.out.2.2 HWB.out (Nat.le_succ _)
  case false =>
   have hA:=of_decide_eq_false hbT
   clear hbT
   cases ar
   case false =>
    have HR5:=hid (HC.out.2.2.2.2 hA rfl)
    clear HC hA
    go_wp2_with fail
    go_meet
    exact ⟨Below.refl _ _,HR5.out⟩
   case true =>
   obtain ⟨a1,nok,a3,a4,s',rfl,a6,a7⟩:=HAR.out rfl
   have hc3:=HC.out.2.2.1 hA rfl
   have hc4:=HC.out.2.2.2.1 hA rfl
   rw [Int.toNat_natCast] at hc3
   have HC3:=hid hc3
   have HC4:=hid hc4
   have CX:=hid (zIm it A3 c3 (s':Int) W0 (HST.out.bl HB0.out).it)
   have HUN:Hid (∀ W,Below w.heap.size w W→∀ wb,Below wb.heap.size wb W→Below w.heap.size w wb→Calls Tryz.prog 55 #[.agg #[.int .i64 t.kind,.string t.text,.int .i64 t.cols,.slice A t.kids.length cap,.slice Ap p.length cp,.slice Am m.length cm,.slice Ar rr.length cr,.int .i64 ra,.int .i64 rb,.slice A1 q.length c1,.int .i64 o,.slice Ai its.length ci,.bool true,.slice A2 q2.length c2,.int .i64 i,.int .i64 (s':Int),.int .i64 it.kind,.string it.text,.int .i64 it.cols,.slice A3 it.kids.length c3]] W (OpP (Lt wb.heap.size) W ⟨4,q2,i,its.length,[zAr it s' []],(s':Int),noT,noT⟩)):=fun W hW wb hb hwb =>
    unw_any (Lt wb.heap.size) it its q2 i s' A2 A3 c2 c3 _ _ _ _ _ _ _ _ _ _ _ _ _ W (HST.out.bl hW).it nok (by omega) ((HST.out.bl hwb).q2.keep (fun r hr=>hb.cell hr) (fun k hk=>⟨Nat.lt_of_lt_of_le hk hb.size,hk⟩)) a6 a7
   have HXC:Hid (zAd [zAr it s' []]≤1000000):=by
    have h9:=zEm it s' (rowT []) 1 (fun _=>by show 1 + 0≤_;omega)
    show zAe (zCj it s' (rowT [])) + 0≤_
    omega
   have HIV:Hid (0≤i∧i≤1000∧q2.length≤90000):=HF.out.2.2.2.2.2.2.2.1 rfl
   have HSV:Hid (0≤(s':Int)∧(s':Int)≤1000):=⟨by omega,by have:=zAn it;omega⟩
   obtain ⟨ai,hai⟩:∃ ai,ai = if back then i else i + its.length:=⟨_,rfl⟩
   rw [← hai] at hc3 HC3
   have HAI:=hid hai
   have HK64:Hid (∀ i ∈ [ai],In64 i):=fun j hj=>by rw [List.mem_singleton.1 hj,HAI.out];have:=HIV.out;have:=HF.out;cases back <;> exact zA2 (by simp <;> omega)
   have j1:decide (0 < sg) = !back:=by rw [HSG.out];cases back <;> rfl
   have v2:IntKind.i64.wrap (i + (its.length:Int)) = i + (its.length:Int):=by have:=HF.out;have:=HIV.out;exact IntWalk.i64_in _ (by omega)
   clear hc3 hc4 hA HC a1 a3 a4 a6 a7 nok hai
   generalize hb9:zCf it.kids 0 (s':Int) = b9 at *
   go_wp2_with fail
   refine CX.out.mono ?_
   rintro e w5 ⟨rfl,hb5⟩
   have HB5:=hid (HB0.out.trans (hb5.mono HB0.out.size))
   have HOS5:=hid (HOS.out.below hb5)
   have HOR5:=hid (HOR.out.below hb5)
   have HB05:=hid hb5
   clear hb5 s0 s1 s2 s3 s4 s5 s6 s7 s8 s9 s10 s11 s12 s13 s14 s15 s16 s17 s18 s19 HOS HOR CX
   obtain ⟨s0,s1,s2,s3,s4,s5,s6,s7,s8,s9,s10,s11,s12,s13,s14,s15,s16,s17,s18,s19⟩:=zHd HOS5.out
   cases b9
   case true =>
    go_wp2_with fail
    go_meet
    exact ⟨HB05.out,HC4.out (by trivial)⟩
   case false =>
   clear m9 a9
   have HRES:=hid (HC3.out (by trivial))
   have HWB:=HB5
   have HG:=HOR5
   have HSB:=hid (HST.out.bl HWB.out)
   have HL:Hid (q2.length + [ai].length≤100000):=by have:=HIV.out;show _ + 1≤_;omega
   have HW:Hid (Below w5.heap.size w5 w5):=hid (Below.refl _ _)
   have HDN:=hid (fun W B (hW:Below w5.heap.size w5 W) hb=>(CD.out W B [⟨4,q2,i,its.length,[zAr it s' []],(s':Int),noT,noT⟩] (q2 ++ [ai]) (HWB.out.trans (hW.mono HWB.out.size)) w5 hb (by simp)).mono (fun e w' (h:RecF w5 _ e w')=>(by rw [HRES.out];exact h:RecF w5 RES e w')))
   go_upto_if 80 with fail
   go_cut [10] from 77 to 85 (fun v wx=>v = .int .i64 ai∧wx = w5)
   case first =>
    have h2:=HAI.out
    cases back
    ·go_wp2_with fail
     go_meet
     simp at h2
     exact ⟨by rw [h2],rfl⟩
    ·go_wp2_with fail
     go_meet
     simp at h2
     exact ⟨by rw [h2],rfl⟩
   case rest =>
   obtain ⟨rfl,hwc⟩:=hcut
   rw [hwc]
   clear hwc v2 j1
   go_upto_region 13 with fail
   refine wp_region_noPanic ?_
   refine wp_region_held_drew (S:=fun w'=>Kept (fun k=>k = w.heap.size + 1) w5 w') (by kernel_rfl) (kwt HW.out) (fun hHeld=>?_)
   refine wpAnyH_take (i:=0) (oi:=⟨some 86,_,_,_,_,_⟩) (v:=_) rfl (by kernel_rfl) (by kernel_rfl) (by kernel_rfl) (fun _ _ _ h=>h) (zB6 73 (.tmp 2) rfl (by rfl) _ rfl (fun w hS=>hS.obj HOS5.out (Nat.ne_of_lt (Nat.lt_succ_self _))) Tryz.underlying73 (by kernel_rfl)) hHeld ?_
   try simp only [Act.put,List.setIfInBounds_toArray,List.set_cons_zero,List.set_cons_succ]
   refine wpAnyH_take (i:=2) (oi:=⟨some 88,_,_,_,_,_⟩) (v:=_) rfl (by kernel_rfl) (by kernel_rfl) (by kernel_rfl) (fun _ _ _ h=>h) (zB6 73 (.tmp 2) rfl (by rfl) _ rfl (fun w hS=>hS.obj HOS5.out (Nat.ne_of_lt (Nat.lt_succ_self _))) Tryz.underlying73 (by kernel_rfl)) hHeld ?_
   try simp only [Act.put,List.setIfInBounds_toArray,List.set_cons_zero,List.set_cons_succ]
   refine wpAnyH_take (i:=5) (oi:=⟨some 91,_,_,_,_,_⟩) (v:=_) rfl (by kernel_rfl) (by kernel_rfl) (by kernel_rfl) (fun _ _ _ h=>h) (Or.inl ⟨by rfl,fun w hS=>by clear hS;go_simp;try with_reducible rfl⟩) hHeld ?_
   try simp only [Act.put,List.setIfInBounds_toArray,List.set_cons_zero,List.set_cons_succ]
   refine wpAnyH_take (i:=6) (oi:=⟨some 92,_,_,_,_,_⟩) (v:=_) rfl (by kernel_rfl) (by kernel_rfl) (by kernel_rfl) (fun _ _ _ h=>h) (Or.inl ⟨by rfl,fun W hS=>by have h:W.cell? ⟨w.heap.size,13,none⟩ = some (.slice A2 q2.length c2):=(hS.obj HOS5.out (Nat.ne_of_lt (Nat.lt_succ_self _))).cell 13;clear hS;go_simp;try with_reducible rfl⟩) hHeld ?_
   try simp only [Act.put,List.setIfInBounds_toArray,List.set_cons_zero,List.set_cons_succ]
   refine wpAnyH_take (i:=7) (oi:=⟨some 93,_,_,_,_,_⟩) (v:=_) rfl (by kernel_rfl) (by kernel_rfl) (by kernel_rfl) (fun _ _ _ h=>h) (Or.inl ⟨by rfl,fun w hS=>by clear hS;go_simp;try with_reducible rfl⟩) hHeld ?_
   try simp only [Act.put,List.setIfInBounds_toArray,List.set_cons_zero,List.set_cons_succ]
   refine wpAnyH_ready (rs:=[1,8]) (by kernel_rfl) (by simp) ?_
   refine (AllReadyH.cons (o:=⟨some 87,_,_,_,_,_⟩) rfl (fun K hK=>?_) (AllReadyH.cons (o:=⟨some 94,_,_,_,_,_⟩) rfl (fun K hK=>?_) AllReadyH.nil))
   go_simp
   refine Calls.mono (zEx _ _ _ _ _ _ _ _ _ _ _ _ _ _ _ _ _ _ _ _ w5 _ (bwt HW.out)) ?_
   rintro e wk ⟨B,F,rfl,hbs,hst⟩
   try have HO:=hid (And.intro (hst.keep (zBo bw HO.out.1)) (hst.keep (zBo bw HO.out.2)))
   try have HR:=hid (Stp.keep hst (zBo bw HR.out))
   have HB:=hid hbs
   have HBO:=HB
   have HW:=hid hbs.below
   clear hst hbs
   refine hK.out _ _ (kwt HW.out) (fun hHeld=>?_)
   clear hK K
   try simp only [Act.put,List.setIfInBounds_toArray,List.set_cons_zero,List.set_cons_succ]
   refine wpAnyH_ready (rs:=[3,8]) (by kernel_rfl) (by simp) ?_
   refine (AllReadyH.cons (o:=⟨some 89,_,_,_,_,_⟩) rfl (fun K hK=>?_) (AllReadyH.cons (o:=⟨some 94,_,_,_,_,_⟩) rfl (fun K hK=>?_) AllReadyH.nil))
   go_simp
   refine Calls.mono (HUN.out _ (HWB.out.trans ((bwt HW.out).mono HWB.out.size)) w5 (bwt HW.out) HWB.out) ?_
   rintro e wk ⟨Ar9,cr9,An9,cn9,rfl,hr9,hn9,hb9⟩
   have HO:=hid (And.intro (zEz HB.out.lo (BS.bl HB.out bw).hi hr9) (zEz HB.out.lo (BS.bl HB.out bw).hi hn9))
   try have HR:=hid (Stp.keep (Stp.of_bl hb9) (zBo bw HR.out))
   have HB:=hid (BS.bl (BS.bl HB.out bw) hb9)
   have HBO:=HB
   have HW:=hid ((bwt HW.out).trans (hb9.mono (bwt HW.out).size))
   clear hr9 hn9 hb9
   refine hK.out _ _ (kwt HW.out) (fun hHeld=>?_)
   clear hK K
   try simp only [Act.put,List.setIfInBounds_toArray,List.set_cons_zero,List.set_cons_succ]
   refine wpAnyH_ready (rs:=[4,8]) (by kernel_rfl) (by simp) ?_
   refine (AllReadyH.cons (o:=⟨some 90,_,_,_,_,_⟩) rfl (fun K hK=>?_) (AllReadyH.cons (o:=⟨some 94,_,_,_,_,_⟩) rfl (fun K hK=>?_) AllReadyH.nil))
   go_simp
   refine Calls.mono (zIp (HB.out.bl bw) ⟨4,q2,i,its.length,[zAr it s' []],(s':Int),noT,noT⟩ _ _ _ _ (by simp) (zC5 (zBo bw HO.out.1)) (zC5 (zBo bw HO.out.2)) (by have:=HIV.out;show q2.length≤_;omega) HXC.out (by simp [In64]) (zA2 (by have:=HIV.out;show _≤i∧i≤_;omega)) (zA2 (by have:=HF.out;show _≤(its.length:Int)∧(its.length:Int)≤_;omega)) (zA2 (by have:=HSV.out;show _≤(s':Int)∧(s':Int)≤_;omega)) (Nat.zero_le _) (Nat.zero_le _)) ?_
   rintro e wk ⟨F,rfl,hbs,hst⟩
   try have HR:=hid (Stp.keep hst (zBo bw HR.out))
   have HB:=hid hbs
   have HBO:=HB
   have HW:=hid hbs.below
   clear hst hbs
   refine hK.out _ _ (kwt HW.out) (fun hHeld=>?_)
   clear hK K
   try simp only [Act.put,List.setIfInBounds_toArray,List.set_cons_zero,List.set_cons_succ]
   refine wpAnyH_ready (rs:=[8]) (by kernel_rfl) (by simp) ?_
   refine (AllReadyH.cons (o:=⟨some 94,_,_,_,_,_⟩) rfl (fun K hK=>?_) AllReadyH.nil)
   go_simp
   refine hK.out _ _ (kwt HW.out) (fun hHeld=>?_)
   clear hK K
   try simp only [Act.put,List.setIfInBounds_toArray,List.set_cons_zero,List.set_cons_succ]
   refine wpAnyH_ready (rs:=[9]) (by kernel_rfl) (by simp) ?_
   refine (AllReadyH.cons (o:=⟨some 95,_,_,_,_,_⟩) rfl (fun K hK=>?_) AllReadyH.nil)
   go_simp
   refine Calls.mono (zHc (HB.out.bl bw) q2 [ai] _ _ _ _ (HSB.out.q2.below (bwt HW.out) (bwt HW.out).size) (zNu _ [ai] _ (HK64.out) (by simp [maxLen])) (HL.out)) ?_
   rintro e wk ⟨rfl,hba⟩
   have HB:=hid hba
   have HW:=hid hba.below
   clear hba
   refine hK.out _ _ (kwt HW.out) (fun hHeld=>?_)
   clear hK K
   try simp only [Act.put,List.setIfInBounds_toArray,List.set_cons_zero,List.set_cons_succ]
   rotate_left
   go_simp
   refine hK.out _ _ (kwt HW.out) (fun hHeld=>?_)
   clear hK K
   try simp only [Act.put,List.setIfInBounds_toArray,List.set_cons_zero,List.set_cons_succ]
   refine wpAnyH_ready (rs:=[4]) (by kernel_rfl) (by simp) ?_
   refine (AllReadyH.cons (o:=⟨some 90,_,_,_,_,_⟩) rfl (fun K hK=>?_) AllReadyH.nil)
   go_simp
   refine Calls.mono (zIp (HB.out.bl bw) ⟨4,q2,i,its.length,[zAr it s' []],(s':Int),noT,noT⟩ _ _ _ _ (by simp) (zC5 (zBo bw HO.out.1)) (zC5 (zBo bw HO.out.2)) (by have:=HIV.out;show q2.length≤_;omega) HXC.out (by simp [In64]) (zA2 (by have:=HIV.out;show _≤i∧i≤_;omega)) (zA2 (by have:=HF.out;show _≤(its.length:Int)∧(its.length:Int)≤_;omega)) (zA2 (by have:=HSV.out;show _≤(s':Int)∧(s':Int)≤_;omega)) (Nat.zero_le _) (Nat.zero_le _)) ?_
   rintro e wk ⟨F,rfl,hbs,hst⟩
   have HR:=hid (zGm [ai] (HK64.out) (by simp [maxLen]) ((BS.bl HBO.out bw).hi) hst)
   have HB:=hid hbs
   have HBO:=HB
   have HW:=hid hbs.below
   clear hst hbs
   refine hK.out _ _ (kwt HW.out) (fun hHeld=>?_)
   clear hK K
   try simp only [Act.put,List.setIfInBounds_toArray,List.set_cons_zero,List.set_cons_succ]
   refine wpAnyH_ready (rs:=[9]) (by kernel_rfl) (by simp) ?_
   refine (AllReadyH.cons (o:=⟨some 95,_,_,_,_,_⟩) rfl (fun K hK=>?_) AllReadyH.nil)
   go_simp
   refine Calls.mono (zHc (HB.out.bl bw) q2 [ai] _ _ _ _ (HSB.out.q2.below (bwt HW.out) (bwt HW.out).size) (zC5 (zBo bw HR.out)) (HL.out)) ?_
   rintro e wk ⟨rfl,hba⟩
   have HB:=hid hba
   have HW:=hid hba.below
   clear hba
   refine hK.out _ _ (kwt HW.out) (fun hHeld=>?_)
   clear hK K
   try simp only [Act.put,List.setIfInBounds_toArray,List.set_cons_zero,List.set_cons_succ]
   rotate_left
   go_simp
   refine hK.out _ _ (kwt HW.out) (fun hHeld=>?_)
   clear hK K
   try simp only [Act.put,List.setIfInBounds_toArray,List.set_cons_zero,List.set_cons_succ]
   refine wpAnyH_ready (rs:=[3]) (by kernel_rfl) (by simp) ?_
   refine (AllReadyH.cons (o:=⟨some 89,_,_,_,_,_⟩) rfl (fun K hK=>?_) AllReadyH.nil)
   go_simp
   refine Calls.mono (HUN.out _ (HWB.out.trans ((bwt HW.out).mono HWB.out.size)) w5 (bwt HW.out) HWB.out) ?_
   rintro e wk ⟨Ar9,cr9,An9,cn9,rfl,hr9,hn9,hb9⟩
   have HO:=hid (And.intro (zEz HB.out.lo (BS.bl HB.out bw).hi hr9) (zEz HB.out.lo (BS.bl HB.out bw).hi hn9))
   have HR:=hid (zGm [ai] (HK64.out) (by simp [maxLen]) ((BS.bl HBO.out bw).hi) (Stp.of_bl hb9))
   have HB:=hid (BS.bl (BS.bl HB.out bw) hb9)
   have HBO:=HB
   have HW:=hid ((bwt HW.out).trans (hb9.mono (bwt HW.out).size))
   clear hr9 hn9 hb9
   refine hK.out _ _ (kwt HW.out) (fun hHeld=>?_)
   clear hK K
   try simp only [Act.put,List.setIfInBounds_toArray,List.set_cons_zero,List.set_cons_succ]
   refine wpAnyH_ready (rs:=[4]) (by kernel_rfl) (by simp) ?_
   refine (AllReadyH.cons (o:=⟨some 90,_,_,_,_,_⟩) rfl (fun K hK=>?_) AllReadyH.nil)
   go_simp
   refine Calls.mono (zIp (HB.out.bl bw) ⟨4,q2,i,its.length,[zAr it s' []],(s':Int),noT,noT⟩ _ _ _ _ (by simp) (zC5 (zBo bw HO.out.1)) (zC5 (zBo bw HO.out.2)) (by have:=HIV.out;show q2.length≤_;omega) HXC.out (by simp [In64]) (zA2 (by have:=HIV.out;show _≤i∧i≤_;omega)) (zA2 (by have:=HF.out;show _≤(its.length:Int)∧(its.length:Int)≤_;omega)) (zA2 (by have:=HSV.out;show _≤(s':Int)∧(s':Int)≤_;omega)) (Nat.zero_le _) (Nat.zero_le _)) ?_
   rintro e wk ⟨F,rfl,hbs,hst⟩
   try have HR:=hid (Stp.keep hst (zBo bw HR.out))
   have HB:=hid hbs
   have HBO:=HB
   have HW:=hid hbs.below
   clear hst hbs
   refine hK.out _ _ (kwt HW.out) (fun hHeld=>?_)
   clear hK K
   try simp only [Act.put,List.setIfInBounds_toArray,List.set_cons_zero,List.set_cons_succ]
   refine wpAnyH_ready (rs:=[9]) (by kernel_rfl) (by simp) ?_
   refine (AllReadyH.cons (o:=⟨some 95,_,_,_,_,_⟩) rfl (fun K hK=>?_) AllReadyH.nil)
   go_simp
   refine Calls.mono (zHc (HB.out.bl bw) q2 [ai] _ _ _ _ (HSB.out.q2.below (bwt HW.out) (bwt HW.out).size) (zC5 (zBo bw HR.out)) (HL.out)) ?_
   rintro e wk ⟨rfl,hba⟩
   have HB:=hid hba
   have HW:=hid hba.below
   clear hba
   refine hK.out _ _ (kwt HW.out) (fun hHeld=>?_)
   clear hK K
   try simp only [Act.put,List.setIfInBounds_toArray,List.set_cons_zero,List.set_cons_succ]
   rotate_left
   go_simp
   refine hK.out _ _ (kwt HW.out) (fun hHeld=>?_)
   clear hK K
   try simp only [Act.put,List.setIfInBounds_toArray,List.set_cons_zero,List.set_cons_succ]
   refine wpAnyH_ready (rs:=[1]) (by kernel_rfl) (by simp) ?_
   refine (AllReadyH.cons (o:=⟨some 87,_,_,_,_,_⟩) rfl (fun K hK=>?_) AllReadyH.nil)
   go_simp
   refine Calls.mono (zEx _ _ _ _ _ _ _ _ _ _ _ _ _ _ _ _ _ _ _ _ w5 _ (bwt HW.out)) ?_
   rintro e wk ⟨B,F,rfl,hbs,hst⟩
   try have HO:=hid (And.intro (hst.keep (zBo bw HO.out.1)) (hst.keep (zBo bw HO.out.2)))
   have HR:=hid (zJ6 [ai] (HK64.out) (by simp [maxLen]) (fun _ h=>False.elim h) hst)
   have HB:=hid hbs
   have HBO:=HB
   have HW:=hid hbs.below
   clear hst hbs
   refine hK.out _ _ (kwt HW.out) (fun hHeld=>?_)
   clear hK K
   try simp only [Act.put,List.setIfInBounds_toArray,List.set_cons_zero,List.set_cons_succ]
   refine wpAnyH_ready (rs:=[3]) (by kernel_rfl) (by simp) ?_
   refine (AllReadyH.cons (o:=⟨some 89,_,_,_,_,_⟩) rfl (fun K hK=>?_) AllReadyH.nil)
   go_simp
   refine Calls.mono (HUN.out _ (HWB.out.trans ((bwt HW.out).mono HWB.out.size)) w5 (bwt HW.out) HWB.out) ?_
   rintro e wk ⟨Ar9,cr9,An9,cn9,rfl,hr9,hn9,hb9⟩
   have HO:=hid (And.intro (zEz HB.out.lo (BS.bl HB.out bw).hi hr9) (zEz HB.out.lo (BS.bl HB.out bw).hi hn9))
   try have HR:=hid (Stp.keep (Stp.of_bl hb9) (zBo bw HR.out))
   have HB:=hid (BS.bl (BS.bl HB.out bw) hb9)
   have HBO:=HB
   have HW:=hid ((bwt HW.out).trans (hb9.mono (bwt HW.out).size))
   clear hr9 hn9 hb9
   refine hK.out _ _ (kwt HW.out) (fun hHeld=>?_)
   clear hK K
   try simp only [Act.put,List.setIfInBounds_toArray,List.set_cons_zero,List.set_cons_succ]
   refine wpAnyH_ready (rs:=[4]) (by kernel_rfl) (by simp) ?_
   refine (AllReadyH.cons (o:=⟨some 90,_,_,_,_,_⟩) rfl (fun K hK=>?_) AllReadyH.nil)
   go_simp
   refine Calls.mono (zIp (HB.out.bl bw) ⟨4,q2,i,its.length,[zAr it s' []],(s':Int),noT,noT⟩ _ _ _ _ (by simp) (zC5 (zBo bw HO.out.1)) (zC5 (zBo bw HO.out.2)) (by have:=HIV.out;show q2.length≤_;omega) HXC.out (by simp [In64]) (zA2 (by have:=HIV.out;show _≤i∧i≤_;omega)) (zA2 (by have:=HF.out;show _≤(its.length:Int)∧(its.length:Int)≤_;omega)) (zA2 (by have:=HSV.out;show _≤(s':Int)∧(s':Int)≤_;omega)) (Nat.zero_le _) (Nat.zero_le _)) ?_
   rintro e wk ⟨F,rfl,hbs,hst⟩
   try have HR:=hid (Stp.keep hst (zBo bw HR.out))
   have HB:=hid hbs
   have HBO:=HB
   have HW:=hid hbs.below
   clear hst hbs
   refine hK.out _ _ (kwt HW.out) (fun hHeld=>?_)
   clear hK K
   try simp only [Act.put,List.setIfInBounds_toArray,List.set_cons_zero,List.set_cons_succ]
   refine wpAnyH_ready (rs:=[9]) (by kernel_rfl) (by simp) ?_
   refine (AllReadyH.cons (o:=⟨some 95,_,_,_,_,_⟩) rfl (fun K hK=>?_) AllReadyH.nil)
   go_simp
   refine Calls.mono (zHc (HB.out.bl bw) q2 [ai] _ _ _ _ (HSB.out.q2.below (bwt HW.out) (bwt HW.out).size) (zC5 (zBo bw HR.out)) (HL.out)) ?_
   rintro e wk ⟨rfl,hba⟩
   have HB:=hid hba
   have HW:=hid hba.below
   clear hba
   refine hK.out _ _ (kwt HW.out) (fun hHeld=>?_)
   clear hK K
   try simp only [Act.put,List.setIfInBounds_toArray,List.set_cons_zero,List.set_cons_succ]
   rotate_left
   all_goals
    refine wpAnyH_ready (rs:=[10]) (by kernel_rfl) (by simp) ?_
    refine (AllReadyH.cons (o:=⟨some 96,_,_,_,_,_⟩) rfl (fun K hK=>?_) AllReadyH.nil)
    go_simp
    refine Calls.mono (HDN.out _ _ (bwt HW.out) (HB.out.bl bw)) ?_
    rintro e wk hrec
    have HREC:=hid hrec
    obtain ⟨Ao9,co9,Ap9,cp9,Am9,cm9,Aap9,cap9,Aam9,cam9,rfl,_,_,_,_,_,hbw⟩:=hrec
    have HW:=hid hbw
    have HGW:=hid (HG.out.below hbw)
    clear hbw
    refine hK.out _ _ (kwt HW.out) (fun hHeld=>?_)
    clear hK K
    try simp only [Act.put,List.setIfInBounds_toArray,List.set_cons_zero,List.set_cons_succ]
    refine wpAnyH_take (i:=11) (oi:=⟨some 97,_,_,_,_,_⟩) (v:=_) rfl (by kernel_rfl) (by kernel_rfl) (by kernel_rfl) (fun _ _ _ h=>h) (Or.inl ⟨by rfl,fun w hS=>by clear hS;go_simp;try with_reducible rfl⟩) hHeld ?_
    try simp only [Act.put,List.setIfInBounds_toArray,List.set_cons_zero,List.set_cons_succ]
    refine wpAnyH_take (i:=12) (oi:=⟨some 98,_,_,_,_,_⟩) (v:=_) rfl (by kernel_rfl) (by kernel_rfl) (by kernel_rfl) (fun _ _ _ h=>h) (Or.inl ⟨by rfl,fun w hS=>by clear hS;go_simp;try with_reducible rfl⟩) hHeld ?_
    try simp only [Act.put,List.setIfInBounds_toArray,List.set_cons_zero,List.set_cons_succ]
    refine wpAnyH_ready (rs:=[13]) (by kernel_rfl) (by simp) ?_
    refine (AllReadyH.cons (o:=⟨none,_,_,_,_,_⟩) rfl (fun K hK=>?_) AllReadyH.nil)
    rw [if_pos (by rfl)]
    refine wp_store_row 36 (.tmp 4) (.tmp 97) rfl (w.heap.size + 1) #[.slice Ao9 RES.1.ops.length co9,.slice Ap9 RES.1.bp.length cp9,.slice Am9 RES.1.bm.length cm9,.slice Aap9 RES.1.ap.length cap9,.slice Aam9 RES.1.am.length cam9] rfl rfl 36 _ HGW.out (by kernel_rfl) (by simp) (by simp [Value.oneCell']) ?_
    refine zCq HGW.out (fun X9 HX9=>?_)
    refine hK.out _ _ ((kwt HW.out).trans' HX9.out.1) (fun hHeld=>?_)
    clear hK K
    try simp only [Act.put,List.setIfInBounds_toArray,List.set_cons_zero,List.set_cons_succ]
    refine wpAnyH_take (i:=14) (oi:=⟨some 5,_,_,_,_,_⟩) (v:=_) rfl (by kernel_rfl) (by kernel_rfl) (by kernel_rfl) (fun _ _ _ h=>h) (Or.inl ⟨by rfl,fun w hS=>by clear hS;go_simp;try with_reducible rfl⟩) hHeld ?_
    try simp only [Act.put,List.setIfInBounds_toArray,List.set_cons_zero,List.set_cons_succ]
    refine wpAnyH_done (by kernel_rfl) ?_ _
    refine NoPanic.normal ?_
   all_goals
    refine (‹∀ (a:Act) (w_1:World),Code.wp Tryz.prog Code.ret (Exit.inBlock 0 (Exit.then K9 (bodyPost Tryz.prog Tryz.f44 (RecF w RES)))) a w_1→_›) _ _ (wp_ret ?_)
    refine bodyPost_ret (v:=.tuple #[.agg #[.slice Ao9 RES.1.ops.length co9,.slice Ap9 RES.1.bp.length cp9,.slice Am9 RES.1.bm.length cm9,.slice Aap9 RES.1.ap.length cap9,.slice Aam9 RES.1.am.length cam9],.int .i64 RES.2]) (zAj Tryz.results44 _ _ _ (w.heap.size + 1) 36 _ (0,0) _ rfl HX9.out.2.1 rfl Tryz.underlying36 (by kernel_rfl) _ rfl) rfl ?_
    exact RecF.put (arr:=#[]) HREC.out HGW.out HX9.out.1 HX9.out.2.2 HWB.out (Nat.le_succ _)
 case rest =>
 obtain ⟨hbc,hres⟩:=hcut
 have HBC:=hid (HB0.out.trans (hbc.mono HB0.out.size))
 have HOSC:=hid (HOS.out.below hbc)
 have HORC:=hid (HOR.out.below hbc)
 have HRES:=hid (hres.trans HSE.out)
 clear hbc hres hbT s0 s1 s2 s3 s4 s5 s6 s7 s8 s9 s10 s11 s12 s13 s14 s15 s16 s17 s18 s19 HOS HOR HC
 obtain ⟨s0,s1,s2,s3,s4,s5,s6,s7,s8,s9,s10,s11,s12,s13,s14,s15,s16,s17,s18,s19⟩:=zHd HOSC.out
 obtain ⟨sp,se⟩:=SR
 go_upto_region 14 with fail
 go_cut [11,12] from 99 to 108 (fun v e wx=>∃ A6 c6,v = .slice A6 sp.length c6∧e = .int .i64 se∧Below wc.heap.size wc wx∧zAh wx (fun k=>wc.heap.size≤k∧k < wx.heap.size) sp (.slice A6 sp.length c6))
 case first =>
  have hf:=HFN.out
  have hcs:=CS.out _ HBC.out
  cases back
  all_goals
   simp only [Bool.false_eq_true,if_false,if_true,ite_true,ite_false] at hf
   subst hf
   go_wp2_with fail
   refine hcs.mono ?_
   rintro e w6 ⟨hb6,v6,rfl,hp6⟩
   obtain ⟨A6,c6,rfl⟩:=hp6.form
   have HX:=hid (And.intro hb6 hp6)
   clear hb6 hp6 hcs
   go_wp2_with fail
   go_meet
   exact ⟨A6,c6,rfl,rfl,HX.out⟩
 case rest =>
 obtain ⟨A6,c6,rfl,rfl,hb6,hp6⟩:=hcut
 have HWB:=hid (HBC.out.trans (hb6.mono HBC.out.size))
 have HOS6:=hid (HOSC.out.below hb6)
 have HG:=hid (HORC.out.below hb6)
 have HP6:=hid hp6
 clear hb6 hp6 s0 s1 s2 s3 s4 s5 s6 s7 s8 s9 s10 s11 s12 s13 s14 s15 s16 s17 s18 s19 HOSC HORC
 by_cases h0:se = 0
 ·subst h0
  have HR:=hid (HRES.out.trans (if_neg (by simp)))
  have HL:Hid (sp.length + ([]:List Int).length≤100000):=by have:=HSL.out;simp only at this;show _ + 0≤_;omega
  have HW:Hid (Below wc.heap.size wc wc):=hid (Below.refl _ _)
  have HDN:=hid (fun W B (hW:Below wc.heap.size wc W) hb=>(CD.out W B [] sp (HWB.out.trans (hW.mono HWB.out.size)) wc hb (by simp)).mono (fun e w' (h:RecF wc _ e w')=>(by rw [HR.out];exact h:RecF wc RES e w')))
  clear HRES
  go_wp2_with (first
   | (refine wpList_load_row rfl 73 (.tmp 2) rfl w.heap.size rfl 73 _ (0,0) _ HOS6.out Tryz.underlying73 rfl (by kernel_rfl) ?_)
   | (go_at_call 39;refine Calls.mono (zEx _ _ _ _ _ _ _ _ _ _ _ _ _ _ _ _ _ _ _ _ wc _ (bwt HW.out)) ?_;rintro e wk ⟨B,F,rfl,hbs,hst⟩;have HB:=hid hbs;have HW:=hid hbs.below;clear hst hbs)
   | (go_at_call 42;refine Calls.mono (zHc (HB.out.bl bw) sp [] _ _ _ _ (zAa.below (HP6.out.keep (fun _ _=>rfl) (fun k hk=>hk.2)) (bwt HW.out) (bwt HW.out).size) (zAa.nil_ 0 (Nat.zero_le _) none) HL.out) ?_;rintro e wk ⟨rfl,hba⟩;rw [List.append_nil] at hba;have HB:=hid hba;have HW:=hid hba.below;clear hba)
   | (go_at_call 43;refine Calls.mono (HDN.out _ _ (bwt HW.out) (HB.out.bl bw)) ?_;rintro e wk hrec;have HREC:=hid hrec;obtain ⟨Ao9,co9,Ap9,cp9,Am9,cm9,Aap9,cap9,Aam9,cam9,rfl,_,_,_,_,_,hbw⟩:=hrec;have HW:=hid hbw;have HGW:=hid (HG.out.below hbw);clear hbw)
   | (refine wpList_store_row rfl 36 (.tmp 4) (.tmp 118) rfl (w.heap.size + 1) _ rfl rfl 36 _ HGW.out (by kernel_rfl) (by simp) (by simp [Value.oneCell']) ?_)
   | fail)
  refine bodyPost_ret (v:=.tuple #[.agg #[.slice Ao9 RES.1.ops.length co9,.slice Ap9 RES.1.bp.length cp9,.slice Am9 RES.1.bm.length cm9,.slice Aap9 RES.1.ap.length cap9,.slice Aam9 RES.1.am.length cam9],.int .i64 RES.2]) (zAj Tryz.results44 _ _ _ (w.heap.size + 1) 36 _ (0,0) _ rfl (HGW.out.row _) rfl Tryz.underlying36 (by kernel_rfl) _ rfl) rfl ?_
  exact RecF.put (arr:=#[]) HREC.out HGW.out (Kept.setRow _ _ _) (size_setRow _ _ _) HWB.out (Nat.le_succ _)
 ·have hse:(se != 0) = true:=by simp [h0]
  have HR:=hid (HRES.out.trans (if_pos (by simpa using h0)))
  clear h0 HRES
  go_wp2_with (first
   | (refine wpList_store_row rfl 36 (.tmp 4) (.tmp 111) rfl (w.heap.size + 1) _ rfl rfl 36 _ HG.out (by kernel_rfl) (by simp) (by simp [Value.oneCell']) ?_)
   | fail)
  refine bodyPost_ret (v:=.tuple #[.agg #[.slice none 0 0,.slice none 0 0,.slice none 0 0,.slice none 0 0,.slice none 0 0],.int .i64 se]) (zAj Tryz.results44 _ _ _ (w.heap.size + 1) 36 _ (0,0) _ rfl (HG.out.row _) rfl Tryz.underlying36 (by kernel_rfl) _ rfl) rfl ?_
  rw [HR.out]
  exact zK8 se (zAk HWB.out (Nat.le_succ _) _)
end Go.Proofs.YtbjcioknfjofkaaGreat
