/- Texts put together. -/
import Derived.Test.YtbjcioknfjofkaaGreatQ5a422e823d
import Derived.Test.YtbjcioknfjofkaaGreatQ067454afc3
import Derived.Deep.AppendLies
set_option linter.unusedVariables false
set_option linter.unusedSimpArgs false
set_option maxRecDepth 100000
namespace Go.Proofs.YtbjcioknfjofkaaGreat
open Go.RowKit
set_option maxHeartbeats 8000000 in
theorem eAll_any (t:Tree) (ops:List OpD) (A Ao:Option Addr) (cap co:Nat) (w:World) (hv:zAa zAb w (Lt w.heap.size) t.kids (.slice A t.kids.length cap)) (hok:zAu t) (hct:zAe t≤900000) (ho:zAa opE w (Lt w.heap.size) ops (.slice Ao ops.length co)) (hol:ops.length≤1000) :
  Calls Tryz.prog 21 #[.agg #[.int .i64 t.kind,.string t.text,.int .i64 t.cols,.slice A t.kids.length cap],.slice Ao ops.length co] w (zIx w (zBn t ops)):=by
 have C1:Hid (∀ W,Below w.heap.size w W→Calls Tryz.prog 49 #[.agg #[.int .i64 t.kind,.string t.text,.int .i64 t.cols,.slice A t.kids.length cap]] W fun e w'=>e = .returned (.bool (zAf t))∧Below W.heap.size W w'):=fun W hW=>zCc t A cap W (hv.below hW hW.size) hok.2.2
 have C2:Hid (∀ W,Below w.heap.size w W→Calls Tryz.prog 51 #[.agg #[.int .i64 t.kind,.string t.text,.int .i64 t.cols,.slice A t.kids.length cap]] W (CopyRes W t)):=fun W hW=>zDq t A cap W (hv.below hW hW.size) hok (by omega)
 have HA:Hid ((zAf t = false→zBn t ops = (zAx,1))∧(zAf t = true→zBn t ops = goS t ops)):=⟨fun h=>if_pos h,fun h=>if_neg (by simp [h])⟩
 have CA:Hid (∀ k (hk:k < ops.length),∃ g o Ar An cr cn,Ao = some ⟨g,o,none⟩∧(∀ W,Below w.heap.size w W→(W.cell? ⟨g,o + k * 8,none⟩ = some (.int .i64 ops[k].kind)∧W.cell? ⟨g,o + k * 8 + 1,none⟩ = some (.slice Ar ops[k].row.length cr)∧W.cell? ⟨g,o + k * 8 + 2,none⟩ = some (.int .i64 ops[k].at_) ∧
   W.cell? ⟨g,o + k * 8 + 3,none⟩ = some (.int .i64 ops[k].n)∧W.cell? ⟨g,o + k * 8 + 4,none⟩ = some (.slice An ops[k].nodes.length cn)∧W.cell? ⟨g,o + k * 8 + 5,none⟩ = some (.int .i64 ops[k].slot)∧W.cell? ⟨g,o + k * 8 + 6,none⟩ = some (.string ops[k].old)∧W.cell? ⟨g,o + k * 8 + 7,none⟩ = some (.string ops[k].text)) ∧
   ∀ (n:Tree) (A':Option Addr) (c':Nat),zAu n→zAf n = true→zAa zAb W (Lt W.heap.size) n.kids (.slice A' n.kids.length c')→Calls Tryz.prog 52 #[.agg #[.int .i64 n.kind,.string n.text,.int .i64 n.cols,.slice A' n.kids.length c'],.agg (opC ops[k] (.slice Ar ops[k].row.length cr) (.slice An ops[k].nodes.length cn))] W (RowQ W (zA8 n ops[k]).1 (zA8 n ops[k]).2))):=by
  intro k hk
  obtain ⟨_,_,rso,hq,_,_,hrdo,hlso⟩:=ho
  cases hq
  obtain ⟨g,o,Ar,An,cr,cn,e,hg,p0,p1,p2,p3,p4,p5,p6,p7,hr,hn,h1,h2,_⟩:=zLf hrdo hlso hk
  have hg':g < w.heap.size:=hg
  refine ⟨g,o,Ar,An,cr,cn,e,fun W hW=>⟨⟨(hW.cell (p:=⟨g,_,none⟩) hg').trans p0,(hW.cell (p:=⟨g,_,none⟩) hg').trans p1,(hW.cell (p:=⟨g,_,none⟩) hg').trans p2,(hW.cell (p:=⟨g,_,none⟩) hg').trans p3,(hW.cell (p:=⟨g,_,none⟩) hg').trans p4,(hW.cell (p:=⟨g,_,none⟩) hg').trans p5,(hW.cell (p:=⟨g,_,none⟩) hg').trans p6,(hW.cell (p:=⟨g,_,none⟩) hg').trans p7⟩,fun n A' c' hno hnv hnr=>?_⟩⟩
  exact zOy n ops[k] A' Ar An c' cr cn W hnr hno (by have:=(zA0 hnv).1;omega) (zP4 hlso hk) (hr.below hW hW.size) (hn.below hW hW.size)
 generalize zBn t ops = RES at *
 generalize hbV:zAf t = bV at *
 have HOK:=hid hok
 have HVT:=hid hbV
 clear hv hok hct ho
 obtain ⟨W0,hW0⟩:∃ W0,(w.alloc (Obj.cells #[.int .i64 t.kind,.string t.text,.int .i64 t.cols,.slice A t.kids.length cap] 24)).alloc (Obj.cells #[.int .i64 0,.string ⟨#[]⟩,.int .i64 0,.slice none 0 0] 24) = W0:=⟨_,rfl⟩
 have HW0Z:Hid (W0.heap.size = w.heap.size + 1 + 1):=by show _ = _;rw [← hW0];simp
 have KB:Hid (∀ W,Below W0.heap.size W0 W→FB W w.heap.size (.int .i64 t.kind) (.string t.text) (.int .i64 t.cols) (.slice A t.kids.length cap)∧FB W (w.heap.size + 1) (.int .i64 0) (.string ⟨#[]⟩) (.int .i64 0) (.slice none 0 0)∧Below w.heap.size w W):=by
  intro W hW
  have hz:W0.heap.size = w.heap.size + 1 + 1:=HW0Z.out
  refine ⟨FB.below (B:=W0.heap.size) ?_ hW (by omega),FB.below (B:=W0.heap.size) ?_ hW (by omega),Below.trans ?_ (hW.mono (by omega))⟩
  ·rw [← hW0];exact (FB.new w _ _ _ _ _ rfl).below (blA _ _) (by simp)
  ·rw [← hW0];exact FB.new _ _ _ _ _ _ (by simp)
  ·rw [← hW0];exact zAp (blA _ _) _
 obtain ⟨⟨⟨m0,m1,m2,m3⟩,_⟩,⟨⟨c0,c1,c2,c3⟩,f0,f1,f2,f3⟩,hbw0⟩:=KB.out W0 (Below.refl _ _)
 have HBW0:=hid hbw0
 clear hbw0
 go_enter Tryz.func21,Tryz.ntmps21
 go_wp2_with fail
 refine (C1.out _ HBW0.out).mono ?_
 rintro e w1 ⟨rfl,hb1⟩
 clear m0 m1 m2 m3 c0 c1 c2 c3 f0 f1 f2 f3
 have HB1:=hid hb1
 obtain ⟨⟨⟨m0,m1,m2,m3⟩,_⟩,⟨⟨c0,c1,c2,c3⟩,f0,f1,f2,f3⟩,hbw1⟩:=KB.out w1 hb1
 have HBW1:=hid hbw1
 clear hb1 hbw1
 cases bV
 ·have HC:=hid (And.intro c0 (And.intro c1 (And.intro c2 c3)))
  go_wp2_with fail
  generalize hW:(((w1.setCell _ (.int .i64 0)).setCell _ (.string ⟨#[]⟩)).setCell _ (.int .i64 0)).setCell _ (.slice none 0 0) = W
  obtain ⟨⟨r0,r1,r2,r3⟩,rz,rb,ro,_⟩:=four HC.out.1 HC.out.2.1 HC.out.2.2.1 HC.out.2.2.2 _ _ _ _ hW.symm
  have HB':=hid (rb w.heap.size w (by omega) HBW1.out)
  clear hW ro rb
  refine bodyPost_ret (v:=.tuple #[.agg #[.int .i64 0,.string ⟨#[]⟩,.int .i64 0,.slice none 0 0],.int .i64 0,.int .i64 1]) (by simp [results,Tryz.results21,go_sem,r0,r1,r2,r3]) rfl ?_
  rw [HA.out.1 (by trivial)]
  exact ⟨_,_,rfl,zAa.nil_ 0 (Nat.zero_le _) none,HB'.out⟩
 have HRS:Hid (RES = goS t ops):=HA.out.2 (by trivial)
 clear HA
 go_wp2_with fail
 refine (C2.out _ HBW1.out).mono ?_
 rintro e w2 ⟨v2,rfl,hr2,hb2⟩
 obtain ⟨A2,c2',rfl⟩:=hr2.form
 obtain ⟨W3,hW3⟩:∃ W3,w2.alloc (.cells #[.int .i64 t.kind,.string t.text,.int .i64 t.cols,.slice A2 t.kids.length c2'] 24) = W3:=⟨_,rfl⟩
 have hb3:Below w2.heap.size w2 W3:=by rw [← hW3];exact blA _ _
 have HB3:Hid (Below W0.heap.size W0 W3):=HB1.out.trans ((hb2.trans (hb3.mono hb2.size)).mono HB1.out.size)
 have HFB:Hid (FB W3 w2.heap.size (.int .i64 t.kind) (.string t.text) (.int .i64 t.cols) (.slice A2 t.kids.length c2')):=by rw [← hW3];exact FB.new _ _ _ _ _ _ rfl
 have H02:Hid (W0.heap.size≤w2.heap.size):=Nat.le_trans HB1.out.size hb2.size
 have H23:Hid (w2.heap.size < W3.heap.size):=by rw [← hW3];show _ < _;simp
 have HR3:Hid (zAa zAb W3 (fun q=>W0.heap.size≤q∧q≠w2.heap.size∧q < W3.heap.size) t.kids (.slice A2 t.kids.length c2')):=hr2.keep (fun q hq=>hb3.cell hq.2) (fun k hk=>⟨Nat.le_trans HB1.out.size hk.1,Nat.ne_of_lt hk.2,Nat.lt_of_lt_of_le hk.2 hb3.size⟩)
 clear hr2 hb2 hb3 m0 m1 m2 m3 c0 c1 c2 c3 f0 f1 f2 f3
 go_upto_region 4 with fail
 try rw [hW3]
 clear hW3
 go_wp2_with fail
 go_loopw [20] (fun i wr=>∃ (k:Nat) (n:Tree) (A':Option Addr) (c':Nat),i = .int .i64 k∧k≤ops.length∧FB wr w2.heap.size (.int .i64 n.kind) (.string n.text) (.int .i64 n.cols) (.slice A' n.kids.length c')∧zAa zAb wr (fun q=>W0.heap.size≤q∧q≠w2.heap.size∧q < wr.heap.size) n.kids (.slice A' n.kids.length c')∧zAu n∧zAf n = true∧RES = goS n (ops.drop k)∧Below W0.heap.size W0 wr∧w2.heap.size < wr.heap.size) (fun i _=>ops.length - (intOf i).toNat)
 case atStart=>exact ⟨0,t,A2,c2',rfl,Nat.zero_le _,HFB.out,HR3.out,HOK.out,HVT.out,HRS.out,HB3.out,H23.out⟩
 case round =>
  obtain ⟨k,n,A',c',rfl,hk,hfb,hrn,hno,hnv,hres,hbr,hlr⟩:=hrel
  obtain ⟨_,hzz,hbwr⟩:=KB.out wr hbr
  rcases Nat.lt_or_ge k ops.length with hlt | hge
  ·obtain ⟨g,o,Ar,An,cr,cn,rfl,hop⟩:=CA.out k hlt
   obtain ⟨⟨p0,p1,p2,p3,p4,p5,p6,p7⟩,_⟩:=hop wr hbwr
   obtain ⟨W4,hW4⟩:∃ W4,wr.alloc (.cells (opC ops[k] (.slice Ar ops[k].row.length cr) (.slice An ops[k].nodes.length cn)) 67) = W4:=⟨_,rfl⟩
   have hb4:Below wr.heap.size wr W4:=by rw [← hW4];exact blA _ _
   have hbw4:=hbwr.trans (hb4.mono hbwr.size)
   have HBR:=hid hbr
   have HAPP:=hid ((hop W4 hbw4).2 n A' c' hno hnv (hrn.keep (fun q hq=>hb4.cell hq.2.2) (fun q hq=>Nat.lt_of_lt_of_le hq.2.2 hb4.size)))
   have hstep:((zA8 n ops[k]).2≠0→RES = (zAx,(zA8 n ops[k]).2))∧((zA8 n ops[k]).2 = 0→RES = goS (zA8 n ops[k]).1 (ops.drop (k + 1))∧zAf (zA8 n ops[k]).1 = true∧zAu (zA8 n ops[k]).1):=by
    rw [List.drop_eq_getElem_cons hlt,goS] at hres
    constructor
    ·intro h;rw [hres,if_pos h]
    ·intro h
     rw [if_neg (by simp [h])] at hres
     exact ⟨hres,zJy hno h⟩
   have HSTEP:=hid hstep
   have i5:decide ((k:Int) < (ops.length:Int)) = true:=by rw [decide_eq_true_eq];omega
   have i6:(0:Int)≤(k:Int):=by omega
   have i7:(k:Int) < (ops.length:Int):=by omega
   obtain ⟨⟨m0,m1,m2,m3⟩,f0,f1,f2,f3⟩:=hfb.below hb4 hlr
   obtain ⟨n0,n1,n2,n3⟩:=hfb.1
   have HZ4:=hid (hzz.below hb4 (by have:=HW0Z.out;have:=HBR.out.size;omega))
   have HOB:Hid (zDa W4 wr.heap.size ops[k] (.slice Ar ops[k].row.length cr) (.slice An ops[k].nodes.length cn)):=by rw [← hW4];exact zDa.new _ _ _ _ _
   obtain ⟨b0,b1,b2,b3,b4,b5,b6,b7⟩:=HOB.out
   have HLR:=hid hlr
   have HB4:=hid hb4
   have H4:Hid (wr.heap.size < W4.heap.size):=by rw [← hW4];show _ < _;simp
   have HRN:=hid hrn
   have HFBN:=hid hfb
   clear hstep hres hno hnv hrn hop hb4 hbw4 hbr hlr hzz hfb CA C1 C2
   generalize ops[k] = op at *
   generalize zA8 n op = R at *
   obtain ⟨⟨rk,rx,rc,rs⟩,er⟩:=R
   obtain ⟨nk,nx,nc,ns⟩:=n
   obtain ⟨kind,row,at_,n,nodes,slot,old,text⟩:=op
   simp only [opC,Tree.kind,Tree.text,Tree.cols,Tree.kids] at *
   clear hbwr
   go_upto_region 7 with fail
   try rw [hW4]
   clear hW4 n0 n1 n2 n3
   go_wp2_with fail
   refine HAPP.out.mono ?_
   rintro e w5 ⟨v5,rfl,hr5,hb5⟩
   simp only [Tree.kind,Tree.text,Tree.cols,Tree.kids] at hr5 ⊢
   obtain ⟨A5,c5,rfl⟩:=hr5.form
   obtain ⟨W6,hW6⟩:∃ W6,w5.alloc (.cells #[.int .i64 rk,.string rx,.int .i64 rc,.slice A5 rs.length c5] 24) = W6:=⟨_,rfl⟩
   have hb6:Below w5.heap.size w5 W6:=by rw [← hW6];exact blA _ _
   have hb46:Below W4.heap.size W4 W6:=hb5.trans (hb6.mono hb5.size)
   have HBR6:Hid (Below wr.heap.size wr W6):=HB4.out.trans (hb46.mono HB4.out.size)
   have HR6:Hid (zAa zAb W6 (fun q=>W4.heap.size≤q∧q < w5.heap.size) rs (.slice A5 rs.length c5)):=hr5.keep (fun q hq=>hb6.cell hq.2) (fun q hq=>hq)
   have HB06:Hid (Below W0.heap.size W0 W6):=HBR.out.trans (HBR6.out.mono HBR.out.size)
   obtain ⟨⟨x0,x1,x2,x3⟩,_⟩:FB W6 w5.heap.size (.int .i64 rk) (.string rx) (.int .i64 rc) (.slice A5 rs.length c5):=by rw [← hW6];exact FB.new _ _ _ _ _ _ rfl
   clear m0 m1 m2 m3 f0 f1 f2 f3 b0 b1 b2 b3 b4 b5 b6 b7 p0 p1 p2 p3 p4 p5 p6 p7
   obtain ⟨⟨m0,m1,m2,m3⟩,f0,f1,f2,f3⟩:=HFBN.out.below HBR6.out HLR.out
   obtain ⟨_,⟨⟨c0,c1,c2,c3⟩,g0,g1,g2,g3⟩,hbw6⟩:=KB.out W6 HB06.out
   have HBW6:=hid hbw6
   have H56:=hid hb6.size
   have H45:=hid hb5.size
   clear hr5 hb5 hb6 hb46 hbw6
   go_upto_region 8 with fail
   try rw [hW6]
   clear hW6
   by_cases her:er = 0
   rotate_left
   ·have i9:(er == 0) = false:=by simpa using her
    have i9':(er != 0) = true:=by simpa using her
    have HE:=hid (HSTEP.out.1 her)
    clear m0 m1 m2 m3 f0 f1 f2 f3 x0 x1 x2 x3
    have HC:=hid (And.intro c0 (And.intro c1 (And.intro c2 c3)))
    go_wp2_with fail
    generalize hW:(((W6.setCell _ (.int .i64 0)).setCell _ (.string ⟨#[]⟩)).setCell _ (.int .i64 0)).setCell _ (.slice none 0 0) = W
    obtain ⟨⟨r0,r1,r2,r3⟩,rz,rb,ro,_⟩:=four HC.out.1 HC.out.2.1 HC.out.2.2.1 HC.out.2.2.2 _ _ _ _ hW.symm
    have HB':=hid (rb w.heap.size w (by omega) HBW6.out)
    clear hW ro rb
    refine bodyPost_ret (v:=.tuple #[.agg #[.int .i64 0,.string ⟨#[]⟩,.int .i64 0,.slice none 0 0],.int .i64 (k:Int),.int .i64 er]) (by simp [results,Tryz.results21,go_sem,r0,r1,r2,r3]) rfl ?_
    rw [HE.out]
    exact ⟨_,_,rfl,zAa.nil_ 0 (Nat.zero_le _) none,HB'.out⟩
   obtain ⟨hq1,hq2,hq3⟩:=HSTEP.out.2 her
   have HQ:=hid (And.intro hq1 (And.intro hq2 hq3))
   subst her
   have HM:=hid (And.intro m0 (And.intro m1 (And.intro m2 m3)))
   have HF:=hid (And.intro f0 (And.intro f1 (And.intro f2 f3)))
   clear hq1 hq2 hq3 c0 c1 c2 c3 g0 g1 g2 g3
   go_wp2_with fail
   generalize hW:(((W6.setCell _ (.int .i64 rk)).setCell _ (.string rx)).setCell _ (.int .i64 rc)).setCell _ (.slice A5 rs.length c5) = W
   obtain ⟨hrr,rz,rb,ro,rf⟩:=four HM.out.1 HM.out.2.1 HM.out.2.2.1 HM.out.2.2.2 _ _ _ _ hW.symm
   have HB':=hid (rb W0.heap.size W0 H02.out HB06.out)
   have HFN:Hid (FB W w2.heap.size (.int .i64 rk) (.string rx) (.int .i64 rc) (.slice A5 rs.length c5)):=⟨hrr,(rf _).trans HF.out.1,(rf _).trans HF.out.2.1,(rf _).trans HF.out.2.2.1,(rf _).trans HF.out.2.2.2⟩
   have HRW:Hid (zAa zAb W (fun q=>W0.heap.size≤q∧q≠w2.heap.size∧q < W.heap.size) rs (.slice A5 rs.length c5)):=HR6.out.keep (fun q hq=>ro q (by have:=hq.1;have:=H4.out;have:=HLR.out;omega)) (fun q hq=>⟨by have:=hq.1;have:=H4.out;have:=HLR.out;have:=H02.out;omega,by have:=hq.1;have:=H4.out;have:=HLR.out;omega,by rw [rz];exact Nat.lt_of_lt_of_le hq.2 H56.out⟩)
   have HLW:Hid (w2.heap.size < W.heap.size):=by show _ < _;rw [rz];have:=H4.out;have:=HLR.out;have:=H45.out;have:=H56.out;omega
   clear hW rb ro rf hrr rz x0 x1 x2 x3 m0 m1 m2 m3 f0 f1 f2 f3
   go_roundw
   case rel=>exact ⟨k + 1,.mk rk rx rc rs,A5,c5,by go_num,by omega,HFN.out,HRW.out,HQ.out.2.2,HQ.out.2.1,HQ.out.1,HB'.out,HLW.out⟩
   case measure=>simp [intOf];omega
  ·have he:ops.drop k = []:=List.drop_eq_nil_of_le hge
   rw [he,goS] at hres
   subst hres
   have i5:decide ((k:Int) < (ops.length:Int)) = false:=by rw [decide_eq_false_iff_not];omega
   obtain ⟨m0,m1,m2,m3⟩:=hfb.1
   obtain ⟨⟨c0,c1,c2,c3⟩,f0,f1,f2,f3⟩:=hzz
   have HC:=hid (And.intro c0 (And.intro c1 (And.intro c2 c3)))
   have HBWR:=hid hbwr
   have HRN:=hid hrn
   have HW:=hid hbr.size
   obtain ⟨nk,nx,nc,ns⟩:=n
   simp only [Tree.kind,Tree.text,Tree.cols,Tree.kids] at *
   clear hfb hrn hno hnv hbr hlr hbwr CA C1 C2 HOK HVT HRS HR3 HFB
   go_wp2_with fail
   generalize hW:(((wr.setCell _ (.int .i64 nk)).setCell _ (.string nx)).setCell _ (.int .i64 nc)).setCell _ (.slice A' ns.length c') = W
   obtain ⟨⟨r0,r1,r2,r3⟩,rz,rb,ro,_⟩:=four HC.out.1 HC.out.2.1 HC.out.2.2.1 HC.out.2.2.2 _ _ _ _ hW.symm
   have HB':=hid (rb w.heap.size w (by omega) HBWR.out)
   have HFIN:Hid (zAa zAb W (Lt W.heap.size) ns (.slice A' ns.length c')):=HRN.out.keep (fun q hq=>ro q (by have:=hq.1;have:=HW0Z.out;omega)) (fun q hq=>by unfold Lt;rw [rz];exact hq.2.2)
   clear hW ro rb
   refine bodyPost_ret (v:=.tuple #[.agg #[.int .i64 nk,.string nx,.int .i64 nc,.slice A' ns.length c'],.int .i64 0,.int .i64 0]) (by simp [results,Tryz.results21,go_sem,r0,r1,r2,r3]) rfl ?_
   exact ⟨_,_,rfl,HFIN.out,HB'.out⟩
structure Kept (N:Nat→Prop) (w w':World):Prop where
 os:w'.os = w.os
 tape:w'.tape = w.tape
 output:w'.output = w.output
 size:w.heap.size≤w'.heap.size
 block:∀ k,k < w.heap.size→¬ N k→w'.heap[k]? = w.heap[k]?
theorem Kept.cell {N:Nat→Prop} {w w':World} (h:Kept N w w') {p:Addr} (hp:p.block < w.heap.size) (hn:¬ N p.block):w'.cell? p = w.cell? p:=World.cell?_of_block (h.block _ hp hn)
theorem Kept.below {N:Nat→Prop} {w w':World} (h:Kept N w w') {B:Nat} (hB:B≤w.heap.size) (hn:∀ k,N k→B≤k):Below B w w':=⟨h.os,h.tape,h.output,h.size,fun k hk=>h.block k (Nat.lt_of_lt_of_le hk hB) (fun e=>absurd (hn k e) (by omega))⟩
theorem Kept.trans {N N':Nat→Prop} {w w1 w':World} (h:Kept N w w1) (k:Kept N' w1 w'):Kept (fun b=>N b∨N' b) w w':=⟨k.os.trans h.os,k.tape.trans h.tape,k.output.trans h.output,Nat.le_trans h.size k.size,fun b hb hn=>(k.block b (Nat.lt_of_lt_of_le hb h.size) (fun e=>hn (.inr e))).trans (h.block b hb (fun e=>hn (.inl e)))⟩
theorem Kept.of_below {w w':World} (h:Below w.heap.size w w') (N:Nat→Prop):Kept N w w':=⟨h.os,h.tape,h.output,h.size,fun k hk _=>h.block k hk⟩
theorem Kept.grown {w w':World} {row:Option Nat} (h:w.grownBy w' row):Kept (fun k=>some k = row) w w':=⟨h.os,h.tape,h.output,h.size,fun k hk hn=>h.block k hk (fun e=>hn e)⟩
theorem Kept.set (w:World) (a:Addr) (v:Value):Kept (fun k=>k = a.block) w (w.setCell a v):=⟨rfl,rfl,rfl,by simp [World.setCell],fun k _ hn=>Below.heap_setCell w a v k hn⟩
theorem Kept.mono {N N':Nat→Prop} {w w':World} (h:Kept N w w') (hn:∀ k,k < w.heap.size→N k→N' k):Kept N' w w':=⟨h.os,h.tape,h.output,h.size,fun k hk hk'=>h.block k hk (fun e=>hk' (hn k hk e))⟩
theorem Kept.obj {N:Nat→Prop} {w w':World} {g:Nat} {o:Obj} (h:Kept N w w') (ho:zAc w g o) (hn:¬ N g):zAc w' g o:=(h.block g ho.lt hn).trans ho
theorem opInfo:InfoE 67 (.agg #[.int .i64 0,.slice none 0 0,.int .i64 0,.int .i64 0,.slice none 0 0,.int .i64 0,.string ⟨#[]⟩,.string ⟨#[]⟩]) 8 112:=by
 have h:(Tryz.prog.info? 67).map (fun i=>(i.zero,i.size,i.bytes)) = some (some (.agg #[.int .i64 0,.slice none 0 0,.int .i64 0,.int .i64 0,.slice none 0 0,.int .i64 0,.string ⟨#[]⟩,.string ⟨#[]⟩]),8,112):=by kernel_rfl
 obtain ⟨i,h1,h2,h3,h4⟩:=info_parts h
 exact ⟨i,h1,h2,h3,h4⟩
theorem zMj {w:World} {ops:Array Oper} {o:Oper} {a:Act} {K:Act→World→Prop} {Q:Exit→Act→World→Prop} {E:Prop} (hgd:o.guard = none) (s x:Operand)
  (ho:o.op = .call { callee:=.builtin .append,args:=#[s,x],argTypes:=#[34,34] })
  (b:Nat) (v:Value) (xss yss:List OpD) (hs:a.eval s = v) (hown:OwnE opE 67 w b xss v) (A:Option Addr) (m c:Nat) (hx:a.eval x = .slice A m c) (hr:zAa opE w (zBt b w v) yss (.slice A m c))
  (hbound:xss.length + yss.length≤1000000) (hb:b≤w.heap.size)
  (h:∀ v' w',OwnE opE 67 w' b (xss ++ yss) v'→w.grownBy w' v.ownBlock→(v'.ownBlock = v.ownBlock∨v'.ownBlock = some w.heap.size)→K (a.put o.dst v') w') :
  if Region.wanted o (yielded ops a.tmps) = true then Oper.wp Tryz.prog o a w K Q else E:=by
 obtain ⟨i0,hi0,hz0,hz1,hz2⟩:=opInfo
 obtain ⟨A',cap',rs,e,h1,h2,hrd,hls⟩:=hr
 injection e with e1 e2 e3
 subst e1 e2 e3
 obtain ⟨cs,ho1,ho2⟩:=hown
 have hl:=hls.len
 refine zC6 w hgd s x 34 ho b 67 i0 _ 8 112 Tryz.underlying34 hi0 hz0 hz1 hz2 rfl (by omega) v _ _ hs ho1 _ A _ c rs hx hl hrd hls.one (by simp only [maxLen];omega) (by omega) hb ?_
 intro v' w' h3 h4 h5
 exact h v' w' (zOr ho1 ho2 hls h3 h4 h5) h4 h5
theorem ownE_ne {α:Type} {E:Enc α} {X:World} {g b:Nat} {T T':TypeId} {xs:List α} {v:Value} {arr:Array Value} (h:OwnE E T X b xs v) (ho:zAc X g (.cells arr T')) (hT:T'≠T):some g≠v.ownBlock:=by
 intro e
 obtain ⟨cs,h1,_⟩:=h
 rcases h1.2 with ⟨rfl,_⟩ | ⟨g',cap,cur,rfl,_,hh,_⟩
 ·simp [Value.ownBlock] at e
 ·simp [Value.ownBlock] at e
  subst e
  unfold zAc at ho
  rw [ho] at hh
  injection hh with hh
  injection hh with _ h2 _
  exact hT h2
set_option maxHeartbeats 1000000 in
theorem zQr (x0 x1 x2 x3 x4 x5 x6 x7 x8 x9 x10 x11 x12 x13 x14 x15 x16 x17 x18 x19:Value) (w:World):Calls Tryz.prog 39 #[.agg #[x0,x1,x2,x3,x4,x5,x6,x7,x8,x9,x10,x11,x12,x13,x14,x15,x16,x17,x18,x19]] w fun e w'=>∃ B,e = .returned (.pointer (some ⟨B,0,none⟩))∧w.heap.size≤B∧zAc w' B (.cells #[x0,x1,x2,x3,x4,x5,x6,x7,x8,x9,x10,x11,x12,x13,x14,x15,x16,x17,x18,x19,.slice none 0 0,.slice none 0 0,.slice none 0 0,.slice none 0 0,.slice none 0 0] 102)∧Below w.heap.size w w':=by
 have hb1:=blA w (.cells #[x0,x1,x2,x3,x4,x5,x6,x7,x8,x9,x10,x11,x12,x13,x14,x15,x16,x17,x18,x19] 73)
 have HB:=hid (hb1.alloc (hb1.size) (.cells #[x0,x1,x2,x3,x4,x5,x6,x7,x8,x9,x10,x11,x12,x13,x14,x15,x16,x17,x18,x19,.slice none 0 0,.slice none 0 0,.slice none 0 0,.slice none 0 0,.slice none 0 0] 102))
 clear hb1
 go_enter Tryz.func39,Tryz.ntmps39
 go_wp2_with (first
  | (refine wpList_load_row rfl 73 (.tmp 1) rfl w.heap.size rfl 73 _ (0,0) _ (heap_alloc_new w _) Tryz.underlying73 rfl (by kernel_rfl) ?_)
  | fail)
 go_ret
 exact ⟨_,rfl,by simp,zAc.at1 _ _ _,HB.out⟩
theorem OwnE.setB {α:Type} {E:Enc α} {T:TypeId} {w:World} {b:Nat} {xs:List α} {v:Value} (h:OwnE E T w b xs v) {a:Addr} (ha:a.block < b) (u:Value):OwnE E T (w.setCell a u) b xs v:=by
 obtain ⟨cs,h1,h2⟩:=h
 refine ⟨cs,ownsRow_setCell_below h1 ha u,h2.keep (S:=zBt b w v) (fun p hp=>World.cell?_setCell_other _ _ _ _ (by rintro rfl;have:=hp.1;omega)) (fun k hk=>⟨hk.1,by simpa [World.setCell] using hk.2.1,hk.2.2⟩)⟩
set_option maxHeartbeats 4000000 in
theorem bop_any (B b:Nat) (arr:Array Value) (vo:Value) (ops:List OpD) (op:OpD) (Ar An:Option Addr) (cr cn:Nat) (w:World) (ho:zAc w B (.cells arr 102)) (h20:arr[20]? = some vo) (hown:OwnE opE 67 w b ops vo) (hBb:B < b) (hb:b≤w.heap.size) (hol:ops.length≤1000)
  (hr:zAh w (Lt w.heap.size) op.row (.slice Ar op.row.length cr)) (hn:zAa zAb w (Lt w.heap.size) op.nodes (.slice An op.nodes.length cn)) (hrl:op.row.length≤1000000) (hnc:zAd op.nodes≤1000000) (hk:In64 op.kind) (ha:In64 op.at_) (hn64:In64 op.n) (hs:In64 op.slot) (hot:op.old.size≤maxLen) (htx:op.text.size≤maxLen) :
  Calls Tryz.prog 40 #[.pointer (some ⟨B,0,none⟩),.agg (opC op (.slice Ar op.row.length cr) (.slice An op.nodes.length cn))] w fun e w'=>∃ vo',e = .returned (.pointer (some ⟨B,0,none⟩))∧zAc w' B (.cells (arr.setIfInBounds 20 vo') 102)∧OwnE opE 67 w' b (ops ++ [op]) vo'∧Kept (fun k=>k = B∨some k = vo.ownBlock) w w'∧∀ k,some k = vo'.ownBlock→some k = vo.ownBlock∨w.heap.size≤k:=by
 obtain ⟨W0,hW0⟩:∃ W0,w.alloc (.cells (opC op (.slice Ar op.row.length cr) (.slice An op.nodes.length cn)) 67) = W0:=⟨_,rfl⟩
 have hz0:W0.heap.size = w.heap.size + 1:=by rw [← hW0];simp
 have hb0:Below w.heap.size w W0:=by rw [← hW0];exact blA _ _
 have hx0:zAc W0 w.heap.size (.cells (opC op (.slice Ar op.row.length cr) (.slice An op.nodes.length cn)) 67):=by rw [← hW0];exact zAc.at0 _ _
 have hBw:=ho.lt
 have KB:Hid (∀ W,Below W0.heap.size W0 W→zAc W B (.cells arr 102)∧zAc W w.heap.size (.cells (opC op (.slice Ar op.row.length cr) (.slice An op.nodes.length cn)) 67)∧OwnE opE 67 W b ops vo∧Below w.heap.size w W):=fun W hW=>by
  have h9:=hb0.trans (hW.mono hb0.size)
  exact ⟨ho.belowB h9 hBw,hx0.belowB hW (by omega),hown.below h9,h9⟩
 have CD:Hid (∀ W,Below w.heap.size w W→_):=fun W hW=>zO1 op Ar An cr cn W (hr.below hW hW.size) (hn.below hW hW.size) hrl hnc
 have HOR:Hid (∀ W S vr vn,zAh W S op.row vr→zAa zAb W S op.nodes vn→opE.R W S op [.int .i64 op.kind,vr,.int .i64 op.at_,.int .i64 op.n,vn,.int .i64 op.slot,.string op.old,.string op.text]):=fun W S vr vn h1 h2=>⟨vr,vn,rfl,hk,ha,hn64,hs,hot,htx,h1,h2⟩
 have HOL:Hid (∀ k,vo.ownBlock = some k→b≤k∧k < w.heap.size):=hown.own_lt
 have HN20:Hid ((∀ (W:World),zAc W B (.cells arr 102)→W.cell? ⟨B,20,none⟩ = some (vo)∧W.frozen? ⟨B,20,none⟩ = false)):=fun W h=>⟨(h.cell 20).trans h20,h.free 20⟩
 obtain ⟨o1,o2,o3,_⟩:=KB.out W0 (Below.refl _ _)
 obtain ⟨b20,f20⟩:=HN20.out W0 o1
 have HB0:=hid hb0
 have HZ0:=hid hz0
 have HBW:=hid hBw
 have ne1:¬ B = w.heap.size:=Nat.ne_of_lt hBw
 have ne2:¬ w.heap.size = B:=fun e=>Nat.ne_of_lt hBw e.symm
 have HBb:=hid hBb
 have HB:=hid hb
 have HL:=hid hol
 obtain ⟨kind,row,at_,n,nodes,slot,old,text⟩:=op
 simp only [opC] at *
 have m0:=o2.cell 0
 have m1:=o2.cell 1
 have m2:=o2.cell 2
 have m3:=o2.cell 3
 have m4:=o2.cell 4
 have m5:=o2.cell 5
 have m6:=o2.cell 6
 have m7:=o2.cell 7
 simp only [List.getElem?_toArray,List.getElem?_cons_zero,List.getElem?_cons_succ] at m0 m1 m2 m3 m4 m5 m6 m7
 clear ho hown hr hn hrl hnc hk ha hn64 hs hot htx hb0 hz0 hx0 hBw hBb hb hol o1 o2 o3 h20
 go_enter Tryz.func40,Tryz.ntmps40
 go_wp2_with fail
 go_region_law (first
  | (go_simp;go_at_call 71;refine (CD.out _ (zC2 HB0.out)).mono ?_;rintro e w3 ⟨Ar',cr',An',cn',rfl,hr3,hn3,hb3⟩;have HB3:=hid (zC7 hb3);have HR3:=hid (HOR.out w3 (fun k=>W0.heap.size≤k∧k < w3.heap.size) _ _ hr3 hn3);obtain ⟨o1,o2,o3,hbw⟩:=KB.out w3 HB3.out;have HW3:=hid hbw;obtain ⟨b20,f20⟩:=HN20.out w3 o1;have b20a:∀ o,(w3.alloc o).cell? ⟨B,20,none⟩ = some vo:=fun o=>(HN20.out _ (o1.al o)).1;have HO1:=hid o1;have HO2:=hid o2;have HO3:=hid o3;have m0:=o2.cell 0;have m1:=o2.cell 1;have m2:=o2.cell 2;have m3:=o2.cell 3;have m4:=o2.cell 4;have m5:=o2.cell 5;have m6:=o2.cell 6;have m7:=o2.cell 7;simp only [List.getElem?_toArray,List.getElem?_cons_zero,List.getElem?_cons_succ] at m0 m1 m2 m3 m4 m5 m6 m7;clear hr3 hn3 hb3 hbw o1 o2 o3)
  | (refine zMj (by rfl) (.tmp 10) (.tmp 13) (by rfl) b _ ops [⟨kind,row,at_,n,nodes,slot,old,text⟩] (by rfl) (HO3.out.below (blA _ _)) _ _ _ (by rfl) (one_E (E:=opE) HR3.out (Nat.le_trans HB.out HB0.out.size) (fun k hk=>Nat.lt_of_lt_of_le (HOL.out k hk).2 HB0.out.size) HB3.out.size _ rfl _) (Nat.le_trans (Nat.add_le_add_right HL.out 1) (by decide)) (Nat.le_trans HB.out (Nat.le_trans HW3.out.size (blA _ _).size)) ?_;intro v4 w4 h41 h42 h43;obtain ⟨A4,c4,hv4⟩:=h41.form;simp only [List.length_append,List.length_cons,List.length_nil,Nat.zero_add] at hv4;subst hv4;have hnB:=ownE_ne HO3.out HO1.out (by decide);have hnX:some w.heap.size≠vo.ownBlock:=fun e=>Nat.lt_irrefl _ (HOL.out _ e.symm).2;have q1:=(HO1.out.al _).grown h42 hnB;have q2:=(HO2.out.al _).grown h42 hnX;obtain ⟨b20,f20⟩:=HN20.out w4 q1;have HQ1:=hid q1;have m0:=q2.cell 0;have m1:=q2.cell 1;have m2:=q2.cell 2;have m3:=q2.cell 3;have m4:=q2.cell 4;have m5:=q2.cell 5;have m6:=q2.cell 6;have m7:=q2.cell 7;simp only [List.getElem?_toArray,List.getElem?_cons_zero,List.getElem?_cons_succ] at m0 m1 m2 m3 m4 m5 m6 m7;have H41:=hid h41;have H42:=hid h42;have H43:=hid h43;clear h41 h42 h43 hnB hnX q1 q2)
  | fail)
 all_goals
  go_wp2_with fail
  go_ret
  refine ⟨_,rfl,HQ1.out.set _,H41.out.setB HBb.out _,?_,fun k hk=>?_⟩
  rotate_left
  ·rcases H43.out with h | h
   ·exact .inl (hk.trans h)
   ·refine .inr ?_
    have h9:=Option.some.inj (hk.trans h)
    rw [h9]
    exact Nat.le_trans HW3.out.size (blA _ _).size
  have k1:Kept (fun _=>False) w w3:=Kept.of_below HW3.out _
  have k2:=Kept.grown H42.out
  have k3:=Kept.set w4 ⟨B,20,none⟩ (.slice A4 (ops.length + 1) c4)
  have k0:Kept (fun _=>False) w (w3.alloc (.cells #[.int .i64 kind,.slice Ar' row.length cr',.int .i64 at_,.int .i64 n,.slice An' nodes.length cn',.int .i64 slot,.string old,.string text] 67)):=Kept.of_below (HW3.out.trans ((blA w3 _).mono HW3.out.size)) _
  exact ((k0.trans k2).trans k3).mono (fun k hk h=>by
   rcases h with (h | h) | h
   ·exact h.elim
   ·exact .inr h
   ·exact .inl h)
set_option maxHeartbeats 2000000 in
theorem bat_any (B:Nat) (arr:Array Value) (p r:List Int) (Ap Ar:Option Addr) (cp cr:Nat) (w:World) (ho:zAc w B (.cells arr 102)) (hz:arr.size = 25) (hp:zAh w (Lt w.heap.size) p (.slice Ap p.length cp)) (hr:zAh w (Lt w.heap.size) r (.slice Ar r.length cr)) (hl:p.length + r.length≤100000) :
  Calls Tryz.prog 42 #[.pointer (some ⟨B,0,none⟩),.slice Ap p.length cp,.slice Ar r.length cr] w fun e w'=>∃ vp,e = .returned (.pointer (some ⟨B,0,none⟩))∧zAc w' B (.cells ((arr.setIfInBounds 23 vp).setIfInBounds 24 (.slice none 0 0)) 102)∧zAh w' (New w w') (p ++ r) vp∧Kept (fun k=>k = B) w w':=by
 have hb1:=blA w (.cells #[.slice Ap p.length cp,.slice Ar r.length cr] 31)
 have HCC:=hid (zGt [p,r] (w.alloc (.cells #[.slice Ap p.length cp,.slice Ar r.length cr] 31)) _ (rows2 hp hr 31 rfl (fun _ h=>h) w.heap.size rfl) (by simp;omega))
 have HO:=hid ho
 have HB1:=hid hb1
 have HBW:=hid ho.lt
 have h23:(23:Nat) < arr.size:=by omega
 have h24:(24:Nat) < arr.size:=by omega
 have HG:=hid (And.intro (Array.getElem?_eq_getElem h23) (Array.getElem?_eq_getElem h24))
 clear ho hp hr hl hb1
 go_enter Tryz.func42,Tryz.ntmps42
 go_wp2_with fail
 refine HCC.out.mono ?_
 rintro e w1 ⟨v1,rfl,hi1,hb2⟩
 have hi:zAh w1 (New w w1) (p ++ r) v1:=by
  have h9:zAh w1 (New w w1) [p,r].flatten v1:=hi1.ints (fun k h1 h2=>⟨by simp at h1;omega,h2⟩)
  have e9:[p,r].flatten = p ++ r:=by simp
  rw [e9] at h9
  exact h9
 obtain ⟨A1,c1,hv1⟩:=hi.form
 rw [List.length_append] at hv1
 subst hv1
 have hw1:=HB1.out.trans (hb2.mono HB1.out.size)
 have ho1:=HO.out.belowB hw1 HBW.out
 have d23:w1.cell? ⟨B,23,none⟩ = some arr[23]:=(ho1.cell 23).trans HG.out.1
 have d24:w1.cell? ⟨B,24,none⟩ = some arr[24]:=(ho1.cell 24).trans HG.out.2
 have f23:=ho1.free 23
 have f24:=ho1.free 24
 have HI:=hid hi
 have HO1:=hid ho1
 have HW1:=hid hw1
 clear hi1 hb2 hi ho1 hw1
 go_wp2_with fail
 go_ret
 refine ⟨_,rfl,(HO1.out.set _).set _,HI.out.keep (fun q hq=>?_) (fun k hk=>⟨hk.1,by simpa [World.setCell] using hk.2⟩),?_⟩
 ·have h9:=HBW.out
  rw [World.cell?_setCell_other _ _ _ _ (by intro e;have:=hq.1;rw [← e] at this;simp only at this;omega),World.cell?_setCell_other _ _ _ _ (by intro e;have:=hq.1;rw [← e] at this;simp only at this;omega)]
 ·exact (((Kept.of_below HW1.out (fun _=>False)).trans (Kept.set _ _ _)).trans (Kept.set _ _ _)).mono (fun k hk h=>by
   rcases h with (h | h) | h
   ·exact h.elim
   ·exact h
   ·exact h)
end Go.Proofs.YtbjcioknfjofkaaGreat
