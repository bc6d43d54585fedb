/- Texts put together. -/
import Derived.Test.YtbjcioknfjofkaaGreatQ99f930fba7
import Derived.Test.YtbjcioknfjofkaaGreatQf027d70dc5
set_option linter.unusedVariables false
set_option linter.unusedSimpArgs false
set_option maxRecDepth 100000
namespace Go.Proofs.YtbjcioknfjofkaaGreat
open Go.RowKit
theorem Kept.setRow (w:World) (g:Nat) (cs:Array Value):Kept (fun k=>k = g) w (w.setRow g cs):=⟨rfl,rfl,rfl,by rw [size_setRow];exact Nat.le_refl _,fun k _ hn=>setRow_other _ _ _ _ hn⟩
def RecP (B:Nat) (N:Nat→Prop) (w:World) (r:RecD × Int) (e:Ending) (w':World):Prop :=
 ∃ vo vbp vbm vap vam,e = .returned (.tuple #[.agg #[vo,vbp,vbm,vap,vam],.int .i64 r.2])∧zAa opE w' (fun k=>B < k∧k < w'.heap.size) r.1.ops vo∧zAh w' (fun k=>B < k∧k < w'.heap.size) r.1.bp vbp∧zAh w' (fun k=>B < k∧k < w'.heap.size) r.1.bm vbm∧zAh w' (fun k=>B < k∧k < w'.heap.size) r.1.ap vap∧zAh w' (fun k=>B < k∧k < w'.heap.size) r.1.am vam∧Kept N w w'
theorem zOo (w:World) (S:Nat→Prop):zAa opE w S recZ.ops (.slice none 0 0)∧zAh w S recZ.bp (.slice none 0 0):=⟨zAa.nil_ 0 (Nat.zero_le _) none,zAa.nil_ 0 (Nat.zero_le _) none⟩
def zD9 (t:Tree) (p m:List Int) (ops:List OpD) (ap am:List Int):RecD × Int:=if (zBn t ops).2 = 0 then (⟨ops,p,m,ap,am⟩,0) else (recZ,6)
set_option maxHeartbeats 8000000 in
theorem done_any (B:Nat) (arr:Array Value) (t:Tree) (p m ap am:List Int) (ops:List OpD) (A Ap Am Ao:Option Addr) (cap cp cm co:Nat) (vap vam:Value) (w:World) (ho:zAc w B (.cells arr 102)) (hz:arr.size = 25)
  (h0:arr[0]? = some (.int .i64 t.kind)) (h1:arr[1]? = some (.string t.text)) (h2:arr[2]? = some (.int .i64 t.cols)) (h3:arr[3]? = some (.slice A t.kids.length cap)) (h4:arr[4]? = some (.slice Ap p.length cp)) (h5:arr[5]? = some (.slice Am m.length cm)) (h20:arr[20]? = some (.slice Ao ops.length co)) (h23:arr[23]? = some vap) (h24:arr[24]? = some vam)
  (hv:zAa zAb w (Lt w.heap.size) t.kids (.slice A t.kids.length cap)) (hok:zAu t) (hct:zAe t≤900000) (hp:zAh w (Lt w.heap.size) p (.slice Ap p.length cp)) (hm:zAh w (Lt w.heap.size) m (.slice Am m.length cm)) (hpl:p.length≤1000000) (hml:m.length≤1000000)
  (hops:zAa opE w (fun k=>B < k∧k < w.heap.size) ops (.slice Ao ops.length co)) (hol:ops.length≤1000) (hap:zAh w (fun k=>B < k∧k < w.heap.size) ap vap) (ham:zAh w (fun k=>B < k∧k < w.heap.size) am vam) :
  Calls Tryz.prog 43 #[.pointer (some ⟨B,0,none⟩)] w (RecP B (fun k=>k = B) w (zD9 t p m ops ap am)):=by
 have hBw:=ho.lt
 obtain ⟨W0,hW0⟩:∃ W0,w.alloc (.cells #[.slice none 0 0,.slice none 0 0,.slice none 0 0,.slice none 0 0,.slice none 0 0] 36) = W0:=⟨_,rfl⟩
 have hz0:W0.heap.size = w.heap.size + 1:=by rw [← hW0];simp
 have hb0:Below w.heap.size w W0:=by rw [← hW0];exact blA _ _
 have hx0:zAc W0 w.heap.size (.cells #[.slice none 0 0,.slice none 0 0,.slice none 0 0,.slice none 0 0,.slice none 0 0] 36):=by rw [← hW0];exact zAc.at0 _ _
 have KB:Hid (∀ W,Below W0.heap.size W0 W→zAc W B (.cells arr 102)∧zAc W w.heap.size (.cells #[.slice none 0 0,.slice none 0 0,.slice none 0 0,.slice none 0 0,.slice none 0 0] 36)∧Below w.heap.size w W):=fun W hW=>by
  have h9:=hb0.trans (hW.mono hb0.size)
  exact ⟨ho.belowB h9 hBw,hx0.belowB hW (by omega),h9⟩
 have CA:Hid (∀ W,Below w.heap.size w W→Calls Tryz.prog 21 #[.agg #[.int .i64 t.kind,.string t.text,.int .i64 t.cols,.slice A t.kids.length cap],.slice Ao ops.length co] W (zIx W (zBn t ops))):=fun W hW=>eAll_any t ops A Ao cap co W (hv.below hW hW.size) hok hct (hops.keep (fun q hq=>hW.cell hq.2) (fun k hk=>Nat.lt_of_lt_of_le hk.2 hW.size)) hol
 have CC:Hid (∀ W,Below w.heap.size w W→Calls Tryz.prog 74 #[.agg #[.slice Ap p.length cp,.slice Am m.length cm]] W _):=fun W hW=>zNb p m Ap Am cp cm W (hp.below hW hW.size) (hm.below hW hW.size) hpl hml
 have HC:Hid (∀ (W:World),zAc W B (.cells arr 102)→W.cell? ⟨B,0,none⟩ = some (.int .i64 t.kind)∧W.cell? ⟨B,1,none⟩ = some (.string t.text)∧W.cell? ⟨B,2,none⟩ = some (.int .i64 t.cols)∧W.cell? ⟨B,3,none⟩ = some (.slice A t.kids.length cap)∧W.cell? ⟨B,4,none⟩ = some (.slice Ap p.length cp)∧W.cell? ⟨B,5,none⟩ = some (.slice Am m.length cm)∧W.cell? ⟨B,20,none⟩ = some (.slice Ao ops.length co)∧W.cell? ⟨B,23,none⟩ = some vap∧W.cell? ⟨B,24,none⟩ = some vam):=fun W h =>
  ⟨(h.cell 0).trans h0,(h.cell 1).trans h1,(h.cell 2).trans h2,(h.cell 3).trans h3,(h.cell 4).trans h4,(h.cell 5).trans h5,(h.cell 20).trans h20,(h.cell 23).trans h23,(h.cell 24).trans h24⟩
 have g21:arr[21]? = some arr[21]:=Array.getElem?_eq_getElem (by omega)
 have g22:arr[22]? = some arr[22]:=Array.getElem?_eq_getElem (by omega)
 generalize arr[21] = x21 at g21
 generalize arr[22] = x22 at g22
 obtain ⟨o1,o2,hbw0⟩:=KB.out W0 (Below.refl _ _)
 obtain ⟨b0,b1,b2,b3,b4,b5,b20,b23,b24⟩:=HC.out W0 o1
 obtain ⟨Aap,cap',rfl⟩:=hap.form
 obtain ⟨Aam,cam,rfl⟩:=ham.form
 have HB0:=hid hb0
 have HZ0:=hid hz0
 have HBW:=hid hBw
 have HOPS:=hid hops
 have HAP:=hid hap
 have HAM:=hid ham
 have ne1:¬ B = w.heap.size:=Nat.ne_of_lt hBw
 have ne2:¬ w.heap.size = B:=fun e=>Nat.ne_of_lt hBw e.symm
 have ne3:¬ B = W0.heap.size:=by have:=HZ0.out;omega
 have ne4:¬ W0.heap.size = B:=by have:=HZ0.out;omega
 have G21:=hid g21
 have G22:=hid g22
 have HR:Hid (zD9 t p m ops ap am = if (zBn t ops).2 = 0 then (⟨ops,p,m,ap,am⟩,0) else (recZ,6)):=rfl
 generalize zD9 t p m ops ap am = RES at *
 generalize zBn t ops = R at *
 obtain ⟨⟨rk,rt,rc,rks⟩,re⟩:=R
 simp only [Tree.kind,Tree.text,Tree.cols,Tree.kids] at HR CA
 clear ho hz h0 h1 h2 h3 h4 h5 h20 h23 h24 hv hok hct hp hm hpl hml hops hol hap ham hb0 hz0 hx0 hBw o1 o2 hbw0 g21 g22
 go_enter Tryz.func43,Tryz.ntmps43
 go_wp2_with fail
 go_region_held3 (fun w'=>w'.cell? ⟨B,0,none⟩ = some (.int .i64 t.kind)∧w'.cell? ⟨B,1,none⟩ = some (.string t.text)∧w'.cell? ⟨B,2,none⟩ = some (.int .i64 t.cols)∧w'.cell? ⟨B,3,none⟩ = some (.slice A t.kids.length cap)∧w'.cell? ⟨B,20,none⟩ = some (.slice Ao ops.length co)) (go_keep) (first
  | (go_at_call 21;refine (CA.out _ (zC2 HB0.out)).mono ?_;rintro e w3 ⟨v3,i3,rfl,hr3,hb3⟩;simp only [Tree.kind,Tree.text,Tree.cols,Tree.kids] at hr3 ⊢;obtain ⟨A3,c3,rfl⟩:=hr3.form;have HB3:=hid (zC7 hb3);obtain ⟨o1,o2,hbw⟩:=KB.out w3 HB3.out;have HW3:=hid hbw;obtain ⟨b0,b1,b2,b3,b4,b5,b20,b23,b24⟩:=HC.out w3 o1;clear hr3 hb3 hbw o1 o2)
  | (go_at_call 21;refine (CA.out _ (zAp (zC2 HB0.out) _)).mono ?_;rintro e w3 ⟨v3,i3,rfl,hr3,hb3⟩;simp only [Tree.kind,Tree.text,Tree.cols,Tree.kids] at hr3 ⊢;obtain ⟨A3,c3,rfl⟩:=hr3.form;have HB3:=hid (zAq (zAp (zC2 (Below.refl _ W0)) _) hb3);obtain ⟨o1,o2,hbw⟩:=KB.out w3 HB3.out;have HW3:=hid hbw;obtain ⟨b0,b1,b2,b3,b4,b5,b20,b23,b24⟩:=HC.out w3 o1;obtain ⟨⟨q0,q1,q2,q3⟩,⟨f0,f1,f2,f3⟩⟩:=FB.below (b:=W0.heap.size) (FB.new W0.drew (.int .i64 0) (.string ⟨#[]⟩) (.int .i64 0) (.slice none 0 0) 24 rfl) hb3 (Nat.lt_of_lt_of_eq (Nat.lt_succ_self _) (World.size_alloc W0.drew _).symm);clear hr3 hb3 hbw o1 o2)
  | fail)
 all_goals
  first
   | (generalize hX:w3.alloc _ = X;have HBX:Hid (Below W0.heap.size W0 X):=by (rw [← hX];exact HB3.out.alloc HB3.out.size _))
   | (generalize hX:World.setCell _ _ _ = X;have HBX:Hid (Below W0.heap.size W0 X):=by (rw [← hX];exact (((HB3.out.setCell (p:=⟨W0.heap.size,0,none⟩) (Nat.le_refl _) _).setCell (p:=⟨W0.heap.size,1,none⟩) (Nat.le_refl _) _).setCell (p:=⟨W0.heap.size,2,none⟩) (Nat.le_refl _) _).setCell (p:=⟨W0.heap.size,3,none⟩) (Nat.le_refl _) _))
  clear hX b0 b1 b2 b3 b4 b5 b20 b23 b24
  try clear q0 q1 q2 q3 f0 f1 f2 f3
  obtain ⟨o1,o2,hbw⟩:=KB.out X HBX.out
  obtain ⟨b0,b1,b2,b3,b4,b5,b20,b23,b24⟩:=HC.out X o1
  have HWX:=hid hbw
  have HO2:=hid o2
  clear o1 o2 hbw
  by_cases her:re = 0
  rotate_left
  ·have i9:(re == 0) = false:=by simpa using her
   have i9':(re != 0) = true:=by simpa using her
   have HRES:Hid (RES = (recZ,6)):=HR.out.trans (if_neg her)
   clear her
   go_wp2_with (first
    | (refine wpList_store_row rfl 36 (.tmp 2) (.tmp 24) rfl w.heap.size _ rfl rfl 36 _ HO2.out (by kernel_rfl) (by simp) (by simp [Value.oneCell']) ?_)
    | fail)
   have hrow:=HO2.out.row #[.slice none 0 0,.slice none 0 0,.slice none 0 0,.slice none 0 0,.slice none 0 0]
   have r0:=hrow.cell 0
   have r1:=hrow.cell 1
   have r2:=hrow.cell 2
   have r3:=hrow.cell 3
   have r4:=hrow.cell 4
   simp only [List.getElem?_toArray,List.getElem?_cons_zero,List.getElem?_cons_succ] at r0 r1 r2 r3 r4
   refine bodyPost_ret (v:=.tuple #[.agg #[.slice none 0 0,.slice none 0 0,.slice none 0 0,.slice none 0 0,.slice none 0 0],.int .i64 6]) (by simp [results,Tryz.results43,go_sem,r0,r1,r2,r3,r4]) rfl ?_
   rw [HRES.out]
   have hzr:=zOo (X.setRow w.heap.size #[.slice none 0 0,.slice none 0 0,.slice none 0 0,.slice none 0 0,.slice none 0 0]) (fun k=>B < k∧k < (X.setRow w.heap.size #[.slice none 0 0,.slice none 0 0,.slice none 0 0,.slice none 0 0,.slice none 0 0]).heap.size)
   exact ⟨_,_,_,_,_,rfl,hzr.1,hzr.2,hzr.2,hzr.2,hzr.2,Kept.of_below (zAk HWX.out (Nat.le_refl _) _) _⟩
  ·have HRES:Hid (RES = (⟨ops,p,m,ap,am⟩,0)):=HR.out.trans (if_pos her)
   subst her
   clear HO2
   go_wp2_with fail
   refine (CC.out _ HWX.out).mono ?_
   rintro e w5 ⟨Ap',cp',Am',cm',rfl,hp5,hm5,hb5⟩
   have HBX5:=hid (HBX.out.trans (hb5.mono HBX.out.size))
   have HP5:=hid hp5
   have HM5:=hid hm5
   have HX5:=hid hb5.size
   clear b0 b1 b2 b3 b4 b5 b20 b23 b24 hp5 hm5 hb5
   obtain ⟨o1,o2,hbw⟩:=KB.out w5 HBX5.out
   obtain ⟨b0,b1,b2,b3,b4,b5,b20,b23,b24⟩:=HC.out w5 o1
   have b21:w5.cell? ⟨B,21,none⟩ = some x21:=(o1.cell 21).trans G21.out
   have b22:w5.cell? ⟨B,22,none⟩ = some x22:=(o1.cell 22).trans G22.out
   have f21:=o1.free 21
   have f22:=o1.free 22
   have HW5:=hid hbw
   have hd:∀ (i j:Nat),i≠j→(⟨B,i,none⟩:Addr)≠⟨B,j,none⟩:=fun i j h e=>h (by injection e)
   have e20:((w5.setCell ⟨B,21,none⟩ (.slice Ap' p.length cp')).setCell ⟨B,22,none⟩ (.slice Am' m.length cm')).cell? ⟨B,20,none⟩ = some (.slice Ao ops.length co):=(World.cell?_setCell_other _ _ _ _ (hd 22 20 (by decide))).trans ((World.cell?_setCell_other _ _ _ _ (hd 21 20 (by decide))).trans b20)
   have e21:((w5.setCell ⟨B,21,none⟩ (.slice Ap' p.length cp')).setCell ⟨B,22,none⟩ (.slice Am' m.length cm')).cell? ⟨B,21,none⟩ = some (.slice Ap' p.length cp'):=(World.cell?_setCell_other _ _ _ _ (hd 22 21 (by decide))).trans (World.cell?_setCell_same _ _ _ b21)
   have e22:((w5.setCell ⟨B,21,none⟩ (.slice Ap' p.length cp')).setCell ⟨B,22,none⟩ (.slice Am' m.length cm')).cell? ⟨B,22,none⟩ = some (.slice Am' m.length cm'):=World.cell?_setCell_same _ _ _ ((World.cell?_setCell_other _ _ _ _ (hd 21 22 (by decide))).trans b22)
   have e23:((w5.setCell ⟨B,21,none⟩ (.slice Ap' p.length cp')).setCell ⟨B,22,none⟩ (.slice Am' m.length cm')).cell? ⟨B,23,none⟩ = some (.slice Aap ap.length cap'):=(World.cell?_setCell_other _ _ _ _ (hd 22 23 (by decide))).trans ((World.cell?_setCell_other _ _ _ _ (hd 21 23 (by decide))).trans b23)
   have e24:((w5.setCell ⟨B,21,none⟩ (.slice Ap' p.length cp')).setCell ⟨B,22,none⟩ (.slice Am' m.length cm')).cell? ⟨B,24,none⟩ = some (.slice Aam am.length cam):=(World.cell?_setCell_other _ _ _ _ (hd 22 24 (by decide))).trans ((World.cell?_setCell_other _ _ _ _ (hd 21 24 (by decide))).trans b24)
   have ho2:=(o2.far (g':=B) (i:=21) (.slice Ap' p.length cp') ne2).far (g':=B) (i:=22) (.slice Am' m.length cm') ne2
   have hfar:∀ q:Addr,q.block≠B→((w5.setCell ⟨B,21,none⟩ (.slice Ap' p.length cp')).setCell ⟨B,22,none⟩ (.slice Am' m.length cm')).cell? q = w5.cell? q:=fun q hq=>by
    rw [World.cell?_setCell_other _ _ _ _ (by intro e;exact hq (by rw [← e])),World.cell?_setCell_other _ _ _ _ (by intro e;exact hq (by rw [← e]))]
   have hz6:((w5.setCell ⟨B,21,none⟩ (.slice Ap' p.length cp')).setCell ⟨B,22,none⟩ (.slice Am' m.length cm')).heap.size = w5.heap.size:=by simp [World.setCell]
   have hk6:=((Kept.of_below hbw (fun _=>False)).trans (Kept.set w5 ⟨B,21,none⟩ (.slice Ap' p.length cp'))).trans (Kept.set _ ⟨B,22,none⟩ (.slice Am' m.length cm'))
   have HO2:=hid ho2
   have HFAR:=hid hfar
   have HZ6:=hid hz6
   have HK6:=hid hk6
   clear o1 o2 hbw hd ho2 hfar hz6 hk6
   go_upto_region 5 with fail
   clear b0 b1 b2 b3 b4 b5 b20 b21 b22 b23 b24 f21 f22
   generalize ((w5.setCell ⟨B,21,none⟩ (.slice Ap' p.length cp')).setCell ⟨B,22,none⟩ (.slice Am' m.length cm')) = W6 at *
   go_wp2_with (first
    | (refine wpList_store_row rfl 36 (.tmp 2) (.tmp 38) rfl w.heap.size _ rfl rfl 36 _ HO2.out (by kernel_rfl) (by simp) (by simp [Value.oneCell']) ?_)
    | fail)
   have hrow:=HO2.out.row #[.slice Ao ops.length co,.slice Ap' p.length cp',.slice Am' m.length cm',.slice Aap ap.length cap',.slice Aam am.length cam]
   have r0:=hrow.cell 0
   have r1:=hrow.cell 1
   have r2:=hrow.cell 2
   have r3:=hrow.cell 3
   have r4:=hrow.cell 4
   simp only [List.getElem?_toArray,List.getElem?_cons_zero,List.getElem?_cons_succ] at r0 r1 r2 r3 r4
   refine bodyPost_ret (v:=.tuple #[.agg #[.slice Ao ops.length co,.slice Ap' p.length cp',.slice Am' m.length cm',.slice Aap ap.length cap',.slice Aam am.length cam],.int .i64 0]) (by simp [results,Tryz.results43,go_sem,r0,r1,r2,r3,r4]) rfl ?_
   rw [HRES.out]
   have hfin:∀ q:Addr,q.block≠B→q.block≠w.heap.size→(W6.setRow w.heap.size #[.slice Ao ops.length co,.slice Ap' p.length cp',.slice Am' m.length cm',.slice Aap ap.length cap',.slice Aam am.length cam]).cell? q = w5.cell? q:=fun q h1 h2=>(World.cell?_of_block (setRow_other _ _ _ _ h2)).trans (HFAR.out q h1)
   have hzf:(W6.setRow w.heap.size #[.slice Ao ops.length co,.slice Ap' p.length cp',.slice Am' m.length cm',.slice Aap ap.length cap',.slice Aam am.length cam]).heap.size = w5.heap.size:=by rw [size_setRow,HZ6.out]
   have hX0:=HBX.out.size
   have hw0:=HZ0.out
   have h5:=HX5.out
   have hBl:=HBW.out
   have hW5:=HW5.out.size
   exact ⟨_,_,_,_,_,rfl,HOPS.out.keep (fun q hq=>(hfin q (Nat.ne_of_gt hq.1) (Nat.ne_of_lt hq.2)).trans (HW5.out.cell hq.2)) (fun k hk=>⟨hk.1,by rw [hzf];exact Nat.lt_of_lt_of_le hk.2 hW5⟩),
    HP5.out.keep (fun q hq=>hfin q (by have:=hq.1;omega) (by have:=hq.1;omega)) (fun k hk=>⟨by have:=hk.1;omega,by rw [hzf];exact hk.2⟩),HM5.out.keep (fun q hq=>hfin q (by have:=hq.1;omega) (by have:=hq.1;omega)) (fun k hk=>⟨by have:=hk.1;omega,by rw [hzf];exact hk.2⟩),
    HAP.out.keep (fun q hq=>(hfin q (Nat.ne_of_gt hq.1) (Nat.ne_of_lt hq.2)).trans (HW5.out.cell hq.2)) (fun k hk=>⟨hk.1,by rw [hzf];exact Nat.lt_of_lt_of_le hk.2 hW5⟩),HAM.out.keep (fun q hq=>(hfin q (Nat.ne_of_gt hq.1) (Nat.ne_of_lt hq.2)).trans (HW5.out.cell hq.2)) (fun k hk=>⟨hk.1,by rw [hzf];exact Nat.lt_of_lt_of_le hk.2 hW5⟩),
    (HK6.out.trans (Kept.setRow W6 w.heap.size _)).mono (fun k hk h=>by
     rcases h with ((h | h) | h) | h
     ·exact h.elim
     ·exact h
     ·exact h
     ·omega)⟩
theorem zJu {ts:List Tree} {k:Nat} (h:k < ts.length) (but:Int):zCf (ts.drop k) (k:Int) but = ((decide ((k:Int)≠but) && decide (0 < ts[k].kids.length)) || zCf (ts.drop (k + 1)) ((k + 1:Nat):Int) but):=by
 rw [List.drop_eq_getElem_cons h,zCf];rfl
set_option maxHeartbeats 2000000 in
theorem zIm (t:Tree) (A:Option Addr) (cap:Nat) (but:Int) (w:World) (hv:zAa zAb w (Lt w.heap.size) t.kids (.slice A t.kids.length cap)) :
  Calls Tryz.prog 77 #[.agg #[.int .i64 t.kind,.string t.text,.int .i64 t.cols,.slice A t.kids.length cap],.int .i64 but] w (EqC w (zCf t.kids 0 but)):=by
 obtain ⟨tk,tx,tc,ts⟩:=t
 simp only [Tree.kind,Tree.text,Tree.cols,Tree.kids] at *
 obtain ⟨_,_,rs,hq,hcap,hmax,hrd,hls⟩:=hv
 cases hq
 unfold maxLen at hmax
 have hlen:ts.length≤9223372036854775807:=by omega
 have H:Hid (zBk w (Lt w.heap.size) A rs∧zAw zAb w (Lt w.heap.size) ts rs):=⟨hrd,hls⟩
 clear hrd hls
 have HB0:=hid (blA w (.cells #[.int .i64 tk,.string tx,.int .i64 tc,.slice A ts.length cap] 24))
 go_enter Tryz.func77,Tryz.ntmps77
 go_wp2_with fail
 go_loopw [10] (fun i wr=>Below w.heap.size w wr∧∃ k:Nat,k≤ts.length∧i = .int .i64 k∧zCf (ts.drop k) (k:Int) but = zCf ts 0 but) (fun i _=>ts.length - (intOf i).toNat)
 case atStart=>exact ⟨HB0.out,0,Nat.zero_le _,rfl,rfl⟩
 case round =>
  obtain ⟨hb,k,hk,rfl,hrest⟩:=hrel
  have HR:=hid hrest
  have HB:=hid hb
  clear hrest
  by_cases hlt:k < ts.length
  ·obtain ⟨g,o,B,bc,bs,rfl,hg,c0,c1,c2,c3,_,_,_,hc5,hc6,hrd,hls⟩:=zAy (H.out.1.keep (Same.of_below hb (Nat.le_refl _)) (Lt.mono hb.size)) (H.out.2.keep (Same.of_below hb (Nat.le_refl _)) (Lt.mono hb.size)) hlt
   have HT:=hid (zJu hlt but)
   have i0:(k:Int) < (ts.length:Int):=by omega
   have HX:=hid (hb.alloc hb.size (Obj.cells #[.int .i64 ts[k].kind,.string ts[k].text,.int .i64 ts[k].cols,.slice B ts[k].kids.length bc] 24))
   clear hb hrd hls hc5 hc6
   generalize ts[k] = x at *
   obtain ⟨xk,xt,xc,xs⟩:=x
   simp only [Tree.kind,Tree.text,Tree.cols,Tree.kids] at *
   by_cases h1:(k:Int) = but
   ·have i1:((k:Int) != but) = false:=by simp [h1]
    have HF:Hid (zCf (ts.drop (k + 1)) ((k + 1:Nat):Int) but = zCf ts 0 but):=by show _ = _;rw [← HR.out,HT.out];simp [h1]
    clear h1
    go_wp2_with fail
    go_roundw
    case rel=>exact ⟨HX.out,k + 1,by omega,by go_num,HF.out⟩
    case measure=>simp [intOf];omega
   ·have i1:((k:Int) != but) = true:=by simp [h1]
    rcases Nat.eq_zero_or_pos xs.length with h2 | h2
    ·have HF:Hid (zCf (ts.drop (k + 1)) ((k + 1:Nat):Int) but = zCf ts 0 but):=by show _ = _;rw [← HR.out,HT.out];simp [h2]
     rw [h2] at c3 HX
     clear h1 h2
     go_wp2_with fail
     go_roundw
     case rel=>exact ⟨HX.out,k + 1,by omega,by go_num,HF.out⟩
     case measure=>simp [intOf];omega
    ·have HF:Hid (zCf ts 0 but = true):=by show _ = _;rw [← HR.out,HT.out];simp [h1,h2]
     have i2:(0:Int) < (xs.length:Int):=by omega
     clear h1
     go_wp2_with fail
     go_ret
     exact ⟨by rw [HF.out];rfl,HX.out⟩
  ·have HF:Hid (zCf ts 0 but = false):=by show _ = _;rw [← HR.out,List.drop_of_length_le (by omega),zCf]
   clear hb
   go_wp2_with fail
   go_ret
   exact ⟨by rw [HF.out];rfl,HB.out⟩
theorem zK4 (x0 x1 x2 x3 x4 x5 x6 x9 x10 x11 x12 x13 x14 x15 x16 x17 x18 x19:Value) (a b:Int) (w:World):Calls Tryz.prog 38 #[.agg #[x0,x1,x2,x3,x4,x5,x6,.int .i64 a,.int .i64 b,x9,x10,x11,x12,x13,x14,x15,x16,x17,x18,x19]] w (EqC w (decide (a < b))):=by
 have HB:=hid (blA w (.cells #[x0,x1,x2,x3,x4,x5,x6,.int .i64 a,.int .i64 b,x9,x10,x11,x12,x13,x14,x15,x16,x17,x18,x19] 73))
 go_enter Tryz.func38,Tryz.ntmps38
 go_wp2_with fail
 go_ret
 exact ⟨rfl,HB.out⟩
def OpP (S:Nat→Prop) (w:World) (op:OpD) (e:Ending) (w':World):Prop:=∃ Ar cr An cn,e = .returned (.agg (opC op (.slice Ar op.row.length cr) (.slice An op.nodes.length cn)))∧zAh w' (fun k=>k < w'.heap.size∧(S k∨w.heap.size≤k)) op.row (.slice Ar op.row.length cr)∧zAa zAb w' (fun k=>k < w'.heap.size∧(S k∨w.heap.size≤k)) op.nodes (.slice An op.nodes.length cn)∧Below w.heap.size w w'
set_option maxHeartbeats 2000000 in
theorem cut_any (S:Nat→Prop) (t:Tree) (r:List Int) (a b:Int) (A Ar:Option Addr) (cap cr:Nat) (x4 x5 x9 x10 x11 x12 x13 x14 x15 x16 x17 x18 x19:Value) (w:World) (hv:zAa zAb w (Lt w.heap.size) t.kids (.slice A t.kids.length cap)) (hok:zAu t) (hct:zAe t≤900000) (hr:zAh w (fun k=>k < w.heap.size∧S k) r (.slice Ar r.length cr)) (ha:In64 a) (hb:In64 b) :
  Calls Tryz.prog 41 #[.agg #[.int .i64 t.kind,.string t.text,.int .i64 t.cols,.slice A t.kids.length cap,x4,x5,.slice Ar r.length cr,.int .i64 a,.int .i64 b,x9,x10,x11,x12,x13,x14,x15,x16,x17,x18,x19]] w (OpP S w (zBs r a (zCd t r a b).1)):=by
 obtain ⟨W0,hW0⟩:∃ W0,(w.alloc (.cells #[.int .i64 t.kind,.string t.text,.int .i64 t.cols,.slice A t.kids.length cap,x4,x5,.slice Ar r.length cr,.int .i64 a,.int .i64 b,x9,x10,x11,x12,x13,x14,x15,x16,x17,x18,x19] 73)).alloc (.cells #[.int .i64 0,.slice none 0 0,.int .i64 0,.int .i64 0,.slice none 0 0,.int .i64 0,.string ⟨#[]⟩,.string ⟨#[]⟩] 67) = W0:=⟨_,rfl⟩
 have hz0:W0.heap.size = w.heap.size + 1 + 1:=by rw [← hW0];simp
 have hb0:Below w.heap.size w W0:=by rw [← hW0];exact ((Below.refl _ _).alloc (Nat.le_refl _) _).alloc (by simp) _
 have ho1:zAc W0 w.heap.size (.cells #[.int .i64 t.kind,.string t.text,.int .i64 t.cols,.slice A t.kids.length cap,x4,x5,.slice Ar r.length cr,.int .i64 a,.int .i64 b,x9,x10,x11,x12,x13,x14,x15,x16,x17,x18,x19] 73):=by rw [← hW0];exact (zAc.at0 _ _).al _
 have ho2:zAc W0 (w.heap.size + 1) (.cells #[.int .i64 0,.slice none 0 0,.int .i64 0,.int .i64 0,.slice none 0 0,.int .i64 0,.string ⟨#[]⟩,.string ⟨#[]⟩] 67):=by rw [← hW0];exact zAc.at1 _ _ _
 have CI:=hid (zOu t r a b A Ar cap cr W0 (hv.below hb0 hb0.size) hok hct (hr.keep (S':=Lt W0.heap.size) (fun q hq=>hb0.cell hq.1) (fun k hk=>Nat.lt_of_lt_of_le hk.1 hb0.size)) ha hb)
 have HRR:=hid hr
 have HB0:=hid hb0
 have HZ0:=hid hz0
 have HO1:=hid ho1
 have HO2:=hid ho2
 have m0:=ho1.cell 0
 have m1:=ho1.cell 1
 have m2:=ho1.cell 2
 have m3:=ho1.cell 3
 have m6:=ho1.cell 6
 have m7:=ho1.cell 7
 have m8:=ho1.cell 8
 simp only [List.getElem?_toArray,List.getElem?_cons_zero,List.getElem?_cons_succ] at m0 m1 m2 m3 m6 m7 m8
 generalize zCd t r a b = IR at *
 obtain ⟨ir,ie⟩:=IR
 simp only [zBs] at *
 clear hv hok hct hr ha hb hb0 hz0 ho1 ho2
 go_enter Tryz.func41,Tryz.ntmps41
 go_wp2_with fail
 refine CI.out.mono ?_
 rintro e w1 ⟨v1,rfl,hr1,hb1⟩
 obtain ⟨A1,c1,rfl⟩:=hr1.form
 clear m0 m1 m2 m3 m6 m7 m8
 have q1:=HO1.out.below hb1
 have q2:=HO2.out.below hb1
 have m6:=q1.cell 6
 have m7:=q1.cell 7
 simp only [List.getElem?_toArray,List.getElem?_cons_zero,List.getElem?_cons_succ] at m6 m7
 have HR1:=hid hr1
 have HB1:=hid (HB0.out.trans (hb1.mono HB0.out.size))
 have HQ2:=hid q2
 clear hr1 hb1 q1 q2 HO1 HO2
 go_wp2_with (first
  | (refine wpList_store_row rfl 67 (.tmp 2) (.tmp 20) rfl (w.heap.size + 1) _ rfl rfl 67 _ HQ2.out (by kernel_rfl) (by simp) (by simp [Value.oneCell']) ?_)
  | fail)
 refine bodyPost_ret (v:=.agg #[.int .i64 2,.slice Ar r.length cr,.int .i64 a,.int .i64 0,.slice A1 ir.length c1,.int .i64 0,.string ⟨#[]⟩,.string ⟨#[]⟩]) (results_cell_row Tryz.results41 _ _ (w.heap.size + 1) 67 _ (0,0) _ rfl (setRow_heap _ _ _ _ _ _ HQ2.out) Tryz.underlying67 rfl (by kernel_rfl)) rfl ?_
 have hz:=HZ0.out
 have hB1:=HB1.out
 exact ⟨_,_,A1,c1,rfl,HRR.out.keep (fun q hq=>(World.cell?_of_block (setRow_other _ _ _ _ (by have:q.block < w.heap.size:=hq.1;omega))).trans (hB1.cell hq.1)) (fun k hk=>⟨by rw [size_setRow];exact Nat.lt_of_lt_of_le hk.1 hB1.size,.inl hk.2⟩),
  HR1.out.keep (fun q hq=>World.cell?_of_block (setRow_other _ _ _ _ (by have:=hq.1;omega))) (fun k hk=>⟨by rw [size_setRow];exact hk.2,.inr (by have:=hk.1;have:=HB0.out.size;omega)⟩),zAk hB1 (by omega) _⟩
end Go.Proofs.YtbjcioknfjofkaaGreat
