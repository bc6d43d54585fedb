/- T -/
import Derived.Test.YthpngeboknmllaaGreatQ8639
set_option linter.unusedVariables false
set_option linter.unusedSimpArgs false
set_option maxHeartbeats 16000000
set_option maxRecDepth 100000
namespace Go.Proofs.YthpngeboknmllaaGreat
open Go.RowKit
theorem zWx (d:Sz) (w:World) (h:Tt w d) (ho:d.o=0) (bB:d.ar=true) (aI:XV d.it.kids 0 d.s=false) :
  Calls Tryz.prog 49 #[.agg (UB d),.int .i64 (-1)] w (Zg w (UK d.t d.p d.m true)):=by
 have e1:d.p.dropLast=d.q:=by rw[h.pe];simp
 have e2:d.p.getLastD 0=0:=by rw[h.pe,ho];simp
 have e3:(ZR d.t d.q).1.kids=d.its:=h.ie.symm;obtain⟨a1,bz,a3,a4,s',a5,a6,a7⟩:=h.ar1 bB;have bA:UK d.t d.p d.m true=XW d.t d.p d.m [⟨4,d.q2,d.i,d.its.length,[Zp d.it s' []],d.s,ZQ,ZQ⟩] (d.q2++[d.i]) []:=by
  have hk:(ZY d.it d.s).kids=d.its:=by rw[Yq (by rw[a5];simpa using a6)];simp only[a5,Int.toNat_natCast];rw[a7];rfl
  unfold UK;simp only[e1,e2,e3];rw[if_neg (by simp),a1];simp only;rw[if_pos aI];unfold Zf;simp only[hk];simp only[a5,Int.toNat_natCast,if_true];rfl
 have CD:Hid (∀W B ops pos,Below w.heap.size w W->∀w0,BA w0 W B (UB d) ops pos []->ops.length<=1000->Calls Tryz.prog 48 #[.pointer (some ⟨B,0,none⟩)] W (Zg w0 (XW d.t d.p d.m ops pos []))):=fun W B ops pos hW w0 hb bL=>zPi h hW hb bL
 have aG:=hid h;have HF:=hid (RI h);obtain⟨t,A,cap,p,Ap,cp,m,Am,cm,rr,Ar,cr,ra,rb,q,A1,c1,o,its,Ai,ci,ar,q2,A2,c2,i,s,it,A3,c3⟩:=d;simp only[UB] at *;subst ho bB a5;generalize UK t p m true=ay at *;have aN:=hid bA;have v1:IntKind.i64.wrap ((0:Int)-1)=-1:=by decide
 obtain⟨W0,aB⟩:∃W0,(w.alloc (.cells #[.int .i64 t.kind,.string t.text,.int .i64 t.cols,.slice A t.kids.length cap,.slice Ap p.length cp,.slice Am m.length cm,.slice Ar rr.length cr,.int .i64 ra,.int .i64 rb,.slice A1 q.length c1,.int .i64 0,.slice Ai its.length ci,.bool true,.slice A2 q2.length c2,.int .i64 i,.int .i64 (s':Int),.int .i64 it.kind,.string it.text,.int .i64 it.cols,.slice A3 it.kids.length c3] 69)).alloc (.cells #[.slice none 0 0,.slice none 0 0,.slice none 0 0,.slice none 0 0,.slice none 0 0] 35)=W0:=⟨_,rfl⟩;have aR:Hid (Below w.heap.size w W0):=by show Below _ _ _;rw[<-aB];exact Zq (ZX _ _) _
 have aP:Hid (Z5 W0 w.heap.size (.cells #[.int .i64 t.kind,.string t.text,.int .i64 t.cols,.slice A t.kids.length cap,.slice Ap p.length cp,.slice Am m.length cm,.slice Ar rr.length cr,.int .i64 ra,.int .i64 rb,.slice A1 q.length c1,.int .i64 0,.slice Ai its.length ci,.bool true,.slice A2 q2.length c2,.int .i64 i,.int .i64 (s':Int),.int .i64 it.kind,.string it.text,.int .i64 it.cols,.slice A3 it.kids.length c3] 69)):=by show Z5 _ _ _;rw[<-aB];exact(Z5.at0 _ _).al _
 have bG:Hid (Z5 W0 (w.heap.size+1) (.cells #[.slice none 0 0,.slice none 0 0,.slice none 0 0,.slice none 0 0,.slice none 0 0] 35)):=by show Z5 _ _ _;rw[<-aB];exact Z5.at1 _ _ _
 obtain⟨s0,s1,s2,s3,s4,s5,s6,s7,s8,s9,bu,bn,bi,bg,aZ,aY,aX,aW,aV,aU⟩:=zHd aP.out;have CX:=zIm it A3 c3 (s':Int) W0 (aG.out.bl aR.out).it;rw[aI] at CX;have bH:=hid CX;have aM:Hid (∀W,Below w.heap.size w W->∀wb,Below wb.heap.size wb W->Below w.heap.size w wb->Calls Tryz.prog 56 #[.agg #[.int .i64 t.kind,.string t.text,.int .i64 t.cols,.slice A t.kids.length cap,.slice Ap p.length cp,.slice Am m.length cm,.slice Ar rr.length cr,.int .i64 ra,.int .i64 rb,.slice A1 q.length c1,.int .i64 0,.slice Ai its.length ci,.bool true,.slice A2 q2.length c2,.int .i64 i,.int .i64 (s':Int),.int .i64 it.kind,.string it.text,.int .i64 it.cols,.slice A3 it.kids.length c3]] W (Q3 (Lt wb.heap.size) W ⟨4,q2,i,its.length,[Zp it s' []],(s':Int),ZQ,ZQ⟩)):=fun W hW wb hb bK =>
  zU3 (Lt wb.heap.size) it its q2 i s' A2 A3 c2 c3 _ _ _ _ _ _ _ _ _ _ _ _ _ W (aG.out.bl hW).it bz (by omega) ((aG.out.bl bK).q2.keep (fun r hr=>hb.cell hr) (fun k hk=>⟨QV hk hb.size,hk⟩)) a6 a7
 have aC:Hid (ZT [Zp it s' []]<=1000000):=by
  have h9:=Tf it s' (Z6 []) 1 (fun _=>by show 1+0<=_;omega);show ZW (Y0 it s' (Z6 []))+0<=_;omega
 have ai:Hid (0<=i/\i<=1000/\q2.length<=90000):=HF.out.2.2.2.2.2.2.2.1 rfl;have aF:Hid (0<=(s':Int)/\(s':Int)<=1000):=⟨by omega,by have h:s'<it.kids.length:=a6;have:=Yz it;omega⟩;have au:Hid (∀j∈[i],Z4 j):=fun j hj=>by rw[List.mem_singleton.1 hj];have:=ai.out;exact YS (by omega)
 clear h e1 e2 e3 a1 a3 a4 a6 a7 bz bA CX aI;go_enter Tryz.func49,Tryz.ntmps49
 go_wp2_with fail
 refine bH.out.mono ?_;clear aB;rintro e w5 ⟨rfl,aA⟩;have ah:=hid (aR.out.trans (aA.mono aR.out.size));have ak:=hid (aP.out.below aA);have HG:=hid (bG.out.below aA);clear aA s0 s1 s2 s3 s4 s5 s6 s7 s8 s9 bu bn bi bg aZ aY aX aW aV aU aP bG bH v1;obtain⟨s0,s1,s2,s3,s4,s5,s6,s7,s8,s9,bu,bn,bi,bg,aZ,aY,aX,aW,aV,aU⟩:=zHd ak.out;have aH:=hid (aG.out.bl ah.out);have HL:Hid (q2.length+[i].length<=100000):=by have:=ai.out;show _+1<=_;omega
 have HW:Hid (Below w5.heap.size w5 w5):=hid (QQ _ _);have bQ:=hid (fun W B (hW:Below w5.heap.size w5 W) hb=>(CD.out W B [⟨4,q2,i,its.length,[Zp it s' []],(s':Int),ZQ,ZQ⟩] (q2++[i]) (ah.out.trans (hW.mono ah.out.size)) w5 hb (by simp)).mono (fun e w' (h:Zg w5 _ e w')=>(by rw[aN.out];exact h:Zg w5 ay e w')))
 go_upto_region 13 with fail
 refine wp_region_noPanic ?_;refine wp_region_held_drew (S:=fun w'=>ZZ (fun k=>k=w.heap.size+1) w5 w') (by kernel_rfl) (kwt HW.out) (fun hHeld=>?_);refine tr 0 86 69 2 rfl (fun w hS=>hS.obj ak.out (Nat.ne_of_lt (Nat.lt_succ_self _))) Tryz.underlying69 ?_;refine tr 2 88 69 2 rfl (fun w hS=>hS.obj ak.out (Nat.ne_of_lt (Nat.lt_succ_self _))) Tryz.underlying69 ?_;refine tk 5 91 rfl ?_;refine tk 6 92 rfl ?_ (hy:=Or.inl ⟨by rfl,fun W hS=>by have h:W.cell? ⟨w.heap.size,13,none⟩=some (.slice A2 q2.length c2):=(hS.obj ak.out (Nat.ne_of_lt (Nat.lt_succ_self _))).cell 13;clear hS;go_simp;try with_reducible rfl⟩);refine tk 7 93 rfl ?_;refine rn [1,8] (rc (some 87) rfl (fun K hK=>?_) (rc (some 94) rfl (fun K hK=>?_) AllReadyH.nil));go_simp;refine Calls.mono (RU _ _ _ _ _ _ _ _ _ _ _ _ _ _ _ _ _ _ _ _ w5 _ (bwt HW.out)) ?_;rintro e wk ⟨B,F,rfl,aa,ae⟩
 try have HO:=hid (QS (ae.keep (YZ bw HO.out.1)) (ae.keep (YZ bw HO.out.2)))
 try have HR:=hid (Ym.keep ae (YZ bw HR.out))
 have HB:=hid aa;have aj:=HB;have HW:=hid aa.below;clear ae aa;refine hK.out _ _ (kwt HW.out) (fun hHeld=>?_);clear hK K;refine rn [3,8] (rc (some 89) rfl (fun K hK=>?_) (rc (some 94) rfl (fun K hK=>?_) AllReadyH.nil));go_simp;refine Calls.mono (aM.out _ (ah.out.trans ((bwt HW.out).mono ah.out.size)) w5 (bwt HW.out) ah.out) ?_;rintro e wk ⟨bI,bC,bJ,bD,rfl,av,ax,ag⟩;have HO:=hid (QS (Sg HB.out.lo (BS.bl HB.out bw).hi av) (Sg HB.out.lo (BS.bl HB.out bw).hi ax))
 try have HR:=hid (Ym.keep (Ym.of_bl ag) (YZ bw HR.out))
 have HB:=hid (BS.bl (BS.bl HB.out bw) ag);have aj:=HB;have HW:=hid ((bwt HW.out).trans (ag.mono (bwt HW.out).size));clear av ax ag;refine hK.out _ _ (kwt HW.out) (fun hHeld=>?_);clear hK K;refine rn [4,8] (rc (some 90) rfl (fun K hK=>?_) (rc (some 94) rfl (fun K hK=>?_) AllReadyH.nil));go_simp;refine Calls.mono (TQ (HB.out.bl bw) ⟨4,q2,i,its.length,[Zp it s' []],(s':Int),ZQ,ZQ⟩ _ _ _ _ (by simp) (Xf (YZ bw HO.out.1)) (Xf (YZ bw HO.out.2)) (by have:=ai.out;show q2.length<=_;omega) aC.out (by simp[Z4]) (YS (by have:=ai.out;show _<=i/\i<=_;omega)) (YS (by have:=HF.out;show _<=(its.length:Int)/\(its.length:Int)<=_;omega)) (YS (by have:=aF.out;show _<=(s':Int)/\(s':Int)<=_;omega)) (QU _) (QU _)) ?_;rintro e wk ⟨F,rfl,aa,ae⟩
 try have HR:=hid (Ym.keep ae (YZ bw HR.out))
 have HB:=hid aa;have aj:=HB;have HW:=hid aa.below;clear ae aa;refine hK.out _ _ (kwt HW.out) (fun hHeld=>?_);clear hK K;refine r1 8 (some 94) rfl (fun K hK=>?_);go_simp;refine hK.out _ _ (kwt HW.out) (fun hHeld=>?_);clear hK K;refine r1 9 (some 95) rfl (fun K hK=>?_);go_simp;refine Calls.mono (UI (HB.out.bl bw) q2 [i] _ _ _ _ (aH.out.q2.below (bwt HW.out) (bwt HW.out).size) (zNu _ [i] _ (au.out) (by simp[maxLen])) (HL.out)) ?_;rintro e wk ⟨rfl,af⟩;have HB:=hid af;have HW:=hid af.below;clear af;refine hK.out _ _ (kwt HW.out) (fun hHeld=>?_);clear hK K
 try simp only[qP,qN,qS,qZ,qC]
 rotate_left;go_simp;refine hK.out _ _ (kwt HW.out) (fun hHeld=>?_);clear hK K;refine r1 4 (some 90) rfl (fun K hK=>?_);go_simp;refine Calls.mono (TQ (HB.out.bl bw) ⟨4,q2,i,its.length,[Zp it s' []],(s':Int),ZQ,ZQ⟩ _ _ _ _ (by simp) (Xf (YZ bw HO.out.1)) (Xf (YZ bw HO.out.2)) (by have:=ai.out;show q2.length<=_;omega) aC.out (by simp[Z4]) (YS (by have:=ai.out;show _<=i/\i<=_;omega)) (YS (by have:=HF.out;show _<=(its.length:Int)/\(its.length:Int)<=_;omega)) (YS (by have:=aF.out;show _<=(s':Int)/\(s':Int)<=_;omega)) (QU _) (QU _)) ?_;rintro e wk ⟨F,rfl,aa,ae⟩;have HR:=hid (Rz [i] (au.out) (by simp[maxLen]) ((BS.bl aj.out bw).hi) ae);have HB:=hid aa;have aj:=HB;have HW:=hid aa.below;clear ae aa;refine hK.out _ _ (kwt HW.out) (fun hHeld=>?_);clear hK K;refine r1 9 (some 95) rfl (fun K hK=>?_);go_simp;refine Calls.mono (UI (HB.out.bl bw) q2 [i] _ _ _ _ (aH.out.q2.below (bwt HW.out) (bwt HW.out).size) (Xf (YZ bw HR.out)) (HL.out)) ?_;rintro e wk ⟨rfl,af⟩;have HB:=hid af;have HW:=hid af.below;clear af;refine hK.out _ _ (kwt HW.out) (fun hHeld=>?_);clear hK K
 try simp only[qP,qN,qS,qZ,qC]
 rotate_left;go_simp;refine hK.out _ _ (kwt HW.out) (fun hHeld=>?_);clear hK K;refine r1 3 (some 89) rfl (fun K hK=>?_);go_simp;refine Calls.mono (aM.out _ (ah.out.trans ((bwt HW.out).mono ah.out.size)) w5 (bwt HW.out) ah.out) ?_;rintro e wk ⟨bI,bC,bJ,bD,rfl,av,ax,ag⟩;have HO:=hid (QS (Sg HB.out.lo (BS.bl HB.out bw).hi av) (Sg HB.out.lo (BS.bl HB.out bw).hi ax));have HR:=hid (Rz [i] (au.out) (by simp[maxLen]) ((BS.bl aj.out bw).hi) (Ym.of_bl ag));have HB:=hid (BS.bl (BS.bl HB.out bw) ag);have aj:=HB;have HW:=hid ((bwt HW.out).trans (ag.mono (bwt HW.out).size));clear av ax ag;refine hK.out _ _ (kwt HW.out) (fun hHeld=>?_);clear hK K;refine r1 4 (some 90) rfl (fun K hK=>?_);go_simp;refine Calls.mono (TQ (HB.out.bl bw) ⟨4,q2,i,its.length,[Zp it s' []],(s':Int),ZQ,ZQ⟩ _ _ _ _ (by simp) (Xf (YZ bw HO.out.1)) (Xf (YZ bw HO.out.2)) (by have:=ai.out;show q2.length<=_;omega) aC.out (by simp[Z4]) (YS (by have:=ai.out;show _<=i/\i<=_;omega)) (YS (by have:=HF.out;show _<=(its.length:Int)/\(its.length:Int)<=_;omega)) (YS (by have:=aF.out;show _<=(s':Int)/\(s':Int)<=_;omega)) (QU _) (QU _)) ?_;rintro e wk ⟨F,rfl,aa,ae⟩
 try have HR:=hid (Ym.keep ae (YZ bw HR.out))
 have HB:=hid aa;have aj:=HB;have HW:=hid aa.below;clear ae aa;refine hK.out _ _ (kwt HW.out) (fun hHeld=>?_);clear hK K;refine r1 9 (some 95) rfl (fun K hK=>?_);go_simp;refine Calls.mono (UI (HB.out.bl bw) q2 [i] _ _ _ _ (aH.out.q2.below (bwt HW.out) (bwt HW.out).size) (Xf (YZ bw HR.out)) (HL.out)) ?_;rintro e wk ⟨rfl,af⟩;have HB:=hid af;have HW:=hid af.below;clear af;refine hK.out _ _ (kwt HW.out) (fun hHeld=>?_);clear hK K
 try simp only[qP,qN,qS,qZ,qC]
 rotate_left;go_simp;refine hK.out _ _ (kwt HW.out) (fun hHeld=>?_);clear hK K;refine r1 1 (some 87) rfl (fun K hK=>?_);go_simp;refine Calls.mono (RU _ _ _ _ _ _ _ _ _ _ _ _ _ _ _ _ _ _ _ _ w5 _ (bwt HW.out)) ?_;rintro e wk ⟨B,F,rfl,aa,ae⟩
 try have HO:=hid (QS (ae.keep (YZ bw HO.out.1)) (ae.keep (YZ bw HO.out.2)))
 have HR:=hid (zJ6 [i] (au.out) (by simp[maxLen]) (fun _ h=>False.elim h) ae);have HB:=hid aa;have aj:=HB;have HW:=hid aa.below;clear ae aa;refine hK.out _ _ (kwt HW.out) (fun hHeld=>?_);clear hK K;refine r1 3 (some 89) rfl (fun K hK=>?_);go_simp;refine Calls.mono (aM.out _ (ah.out.trans ((bwt HW.out).mono ah.out.size)) w5 (bwt HW.out) ah.out) ?_;rintro e wk ⟨bI,bC,bJ,bD,rfl,av,ax,ag⟩;have HO:=hid (QS (Sg HB.out.lo (BS.bl HB.out bw).hi av) (Sg HB.out.lo (BS.bl HB.out bw).hi ax))
 try have HR:=hid (Ym.keep (Ym.of_bl ag) (YZ bw HR.out))
 have HB:=hid (BS.bl (BS.bl HB.out bw) ag);have aj:=HB;have HW:=hid ((bwt HW.out).trans (ag.mono (bwt HW.out).size));clear av ax ag;refine hK.out _ _ (kwt HW.out) (fun hHeld=>?_);clear hK K;refine r1 4 (some 90) rfl (fun K hK=>?_);go_simp;refine Calls.mono (TQ (HB.out.bl bw) ⟨4,q2,i,its.length,[Zp it s' []],(s':Int),ZQ,ZQ⟩ _ _ _ _ (by simp) (Xf (YZ bw HO.out.1)) (Xf (YZ bw HO.out.2)) (by have:=ai.out;show q2.length<=_;omega) aC.out (by simp[Z4]) (YS (by have:=ai.out;show _<=i/\i<=_;omega)) (YS (by have:=HF.out;show _<=(its.length:Int)/\(its.length:Int)<=_;omega)) (YS (by have:=aF.out;show _<=(s':Int)/\(s':Int)<=_;omega)) (QU _) (QU _)) ?_;rintro e wk ⟨F,rfl,aa,ae⟩
 try have HR:=hid (Ym.keep ae (YZ bw HR.out))
 have HB:=hid aa;have aj:=HB;have HW:=hid aa.below;clear ae aa;refine hK.out _ _ (kwt HW.out) (fun hHeld=>?_);clear hK K;refine r1 9 (some 95) rfl (fun K hK=>?_);go_simp;refine Calls.mono (UI (HB.out.bl bw) q2 [i] _ _ _ _ (aH.out.q2.below (bwt HW.out) (bwt HW.out).size) (Xf (YZ bw HR.out)) (HL.out)) ?_;rintro e wk ⟨rfl,af⟩;have HB:=hid af;have HW:=hid af.below;clear af;refine hK.out _ _ (kwt HW.out) (fun hHeld=>?_);clear hK K
 try simp only[qP,qN,qS,qZ,qC]
 rotate_left
 all_goals
  refine r1 10 (some 96) rfl (fun K hK=>?_);go_simp;refine Calls.mono (bQ.out _ _ (bwt HW.out) (HB.out.bl bw)) ?_;rintro e wk az;have aO:=hid az;obtain⟨bU,bN,bR,bM,bW,bP,aS,aK,aT,aL,rfl,_,_,_,_,_,aJ⟩:=az;have HW:=hid aJ;have aQ:=hid (HG.out.below aJ);clear aJ;refine hK.out _ _ (kwt HW.out) (fun hHeld=>?_);clear hK K;refine tk 11 97 rfl ?_;refine tk 12 98 rfl ?_;refine r1 13 none rfl (fun K hK=>?_);rw[if_pos (by rfl)];refine wp_store_row 35 (.tmp 4) (.tmp 97) rfl (w.heap.size+1) #[.slice bU ay.1.ops.length bN,.slice bR ay.1.bp.length bM,.slice bW ay.1.bm.length bP,.slice aS ay.1.ap.length aK,.slice aT ay.1.am.length aL] rfl rfl 35 _ aQ.out (by kernel_rfl) (by simp) (by simp[Value.oneCell']) ?_;refine Wv aQ.out (fun X9 aD=>?_);refine hK.out _ _ ((kwt HW.out).trans' aD.out.1) (fun hHeld=>?_);clear hK K;refine tk 14 5 rfl ?_;refine wpAnyH_done (by kernel_rfl) ?_ _;refine NoPanic.normal ?_
 all_goals
  go_wp2_with fail
  refine Yr Tryz.results49 Tryz.underlying35 (.int .i64 ay.2) aD.out.2.1 ?_;exact Zg.put (arr:=#[]) aO.out aQ.out aD.out.1 aD.out.2.2 ah.out (Nat.le_succ _)
theorem zWw (t:Z9) (p m:List Int) (A Ap Am:Option Addr) (cap cp cm:Nat) (w:World) (hv:Z8 Z7 w (Lt w.heap.size) t.kids (.slice A t.kids.length cap)) (aU:Zt t) (aW:ZW t<=900000) (hp:Z0 w (Lt w.heap.size) p (.slice Ap p.length cp)) (hm:Z0 w (Lt w.heap.size) m (.slice Am m.length cm)) (aS:p.length<=90000) (aV:m.length<=90000)
  (af:(ZI t p m).2=0) (ae:¬(ZI t p m).1.2.1<(ZI t p m).1.2.2) (aT:p.getLastD 0=0) (q5:List Int) (i5 s5:Int) (aR:Z9) (bg:Zz t p=some ⟨q5,i5,s5,aR⟩) (aX:XV aR.kids 0 s5=false) :
  Calls Tryz.prog 17 #[.agg #[.int .i64 t.kind,.string t.text,.int .i64 t.cols,.slice A t.kids.length cap],.agg #[.slice Ap p.length cp,.slice Am m.length cm],.bool true] w (Zg w (R6 t p m true)):=by
 rw[zJs af ae];obtain⟨W0,bG,aa,ai,ax,bL⟩:=Ty t p m A Ap Am cap cp cm w;have CC:=hid (zSh t p m A Ap Am cap cp cm W0 (hv.below aa aa.size) aU aW (hp.below aa aa.size) (hm.below aa aa.size) aS aV);have bD:=hid aa;have m0:=ai.cell 0;have m1:=ai.cell 1;have m2:=ai.cell 2;have m3:=ai.cell 3;have n0:=ax.cell 0;have n1:=ax.cell 1;simp only[List.getElem?_toArray,List.getElem?_cons_zero,List.getElem?_cons_succ] at m0 m1 m2 m3 n0 n1;have bn:=hid aT;have aG:=hid bg;have bB:=hid aX;have bi:=hid ae;have bu:=hid af;clear hv aU aW hp hm aS aV aa ai ax aT bg aX ae af;go_enter Tryz.func17,Tryz.ntmps17
 go_wp2_with fail
 refine CC.out.mono ?_;rintro e w1 ⟨aA,h1⟩;have bC:=hid (bD.out.trans (aA.mono bD.out.size));have bz:=hid (bL.out.below aA);clear aA m0 m1 m2 m3 n0 n1 bG;rcases h1 with ⟨he,rfl⟩|⟨he,rr,Ar,cr,ra,rb,q,A1,o,its,Ai,ci,ar,q2,A2,c2,i,s,it,A3,c3,rfl,ag⟩
 ·exact absurd bu.out he
 have af:=ag.of;have av:=ag.pe;have au:=ag.ar0;have ak:=ag.ar1;simp only at af av au ak;have h0:o=0:=by have h:=bn.out;rw[av] at h;simpa using h
 have aY:decide (ra<rb)=false:=by have h:=bi.out;rw[af] at h;simp only at h;exact decide_eq_false (by omega)
 have h2:ar=true:=by
  cases ar
  ·have h:=aG.out;rw[au rfl] at h;cases h
  rfl
 have h3:XV it.kids 0 s=false:=by
  have h:=aG.out;rw[(ak h2).1] at h;injection h with h
  injection h with e1 e2 e3 e4
  rw[e3,e4];exact bB.out
 subst h0 h2;have CE:Hid (∀W,Below w1.heap.size w1 W->Calls Tryz.prog 49 #[.agg #[.int .i64 t.kind,.string t.text,.int .i64 t.cols,.slice A t.kids.length cap,.slice Ap p.length cp,.slice Am m.length cm,.slice Ar rr.length cr,.int .i64 ra,.int .i64 rb,.slice A1 q.length cp,.int .i64 0,.slice Ai its.length ci,.bool true,.slice A2 q2.length c2,.int .i64 i,.int .i64 s,.int .i64 it.kind,.string it.text,.int .i64 it.cols,.slice A3 it.kids.length c3],.int .i64 (-1)] W (Zg W (UK t p m true))):=fun W hW=>zWx ⟨t,A,cap,p,Ap,cp,m,Am,cm,rr,Ar,cr,ra,rb,q,A1,cp,0,its,Ai,ci,true,q2,A2,c2,i,s,it,A3,c3⟩ W (ag.bl hW) rfl rfl h3
 have bA:=hid (fun (W:World) (x0 x1 x2 x3 x4 x5 x6 x9 aQ aP aO aN aM aL aK aJ aI aH:Value)=>(by rw[<-aY];exact zK4 x0 x1 x2 x3 x4 x5 x6 x9 aQ aP aO aN aM aL aK aJ aI aH ra rb W:Calls Tryz.prog 43 #[.agg #[x0,x1,x2,x3,x4,x5,x6,.int .i64 ra,.int .i64 rb,x9,aQ,aP,aO,aN,aM,aL,aK,aJ,aI,aH]] W (Xg W false)));simp only[UB];clear CC he af av au ak aY h3 ag bn aG bB bi bu;generalize UK t p m true=bJ at *
 go_upto_region 2 with (first
  |(refine sR 69 8 15 (Z5.at0 _ _) ?_)
  |fail)
 generalize hX:World.setRow _ _ _=X;have ay:=YL hX;have aB:=hid (XK hX);have HG:Hid (Z5 X (w.heap.size+1+1) (.cells #[.slice none 0 0,.slice none 0 0,.slice none 0 0,.slice none 0 0,.slice none 0 0] 35)):=hid (bz.out.below ay);have aj:=hid ay;clear hX ay
 go_upto_if 22 with (first
  |(refine lR 69 8 aB.out Tryz.underlying69 ?_)
  |(go_at_call 43;refine Calls.mono (bA.out _ _ _ _ _ _ _ _ _ _ _ _ _ _ _ _ _ _ _) ?_;rintro e w2 ⟨rfl,aZ⟩;have aF:=hid aZ;clear aZ)
  |fail)
 have aj:=hid (aj.out.trans (aF.out.mono aj.out.size));have bK:=hid (bC.out.trans (aj.out.mono bC.out.size));have HS:=hid (aB.out.below aF.out);have HG:=hid (HG.out.below aF.out);clear aB bz bA
 go_wp2_with (first
  |(refine lR 69 8 HS.out Tryz.underlying69 ?_)
  |(go_at_call 49;refine Calls.mono (CE.out _ aj.out) ?_;rintro e wk ah;have aC:=hid ah;obtain⟨Ao9,co9,Ap9,cp9,Am9,cm9,bM,bH,bN,bI,rfl,_,_,_,_,_,az⟩:=ah;have HW:=hid az;have aD:=hid (HG.out.below az);clear az)
  |(refine sR 35 6 43 aD.out ?_)
  |fail)
 refine Yr Tryz.results17 Tryz.underlying35 (.int .i64 bJ.2) (aD.out.row _) ?_;exact Zg.put (arr:=#[]) aC.out aD.out (ZZ.setRow _ _ _) (size_setRow _ _ _) bK.out (by omega)
theorem VV (t:Z9) (p m:List Int) (s:Int) (items:List Z9) (x:ByteArray) (f:Bool) (A Ap Am An:Option Addr) (cap cp cm cn:Nat) (w:World) (aa:Za×Int)
  (hC:∀W,Below w.heap.size w W->Calls Tryz.prog 24 #[.agg #[.int .i64 t.kind,.string t.text,.int .i64 t.cols,.slice A t.kids.length cap],.agg #[.slice Ap p.length cp,.slice Am m.length cm]] W (Zv W aa)) :
  Calls Tryz.prog 8 #[.agg #[.int .i64 t.kind,.string t.text,.int .i64 t.cols,.slice A t.kids.length cap],.agg #[.slice Ap p.length cp,.slice Am m.length cm],.agg #[.int .i64 3,.slice An items.length cn,.int .i64 s,.string x,.bool f]] w (Zv w aa):=by
 obtain⟨W0,af⟩:∃W0,(((w.alloc (.cells #[.int .i64 t.kind,.string t.text,.int .i64 t.cols,.slice A t.kids.length cap] 24)).alloc (.cells #[.slice Ap p.length cp,.slice Am m.length cm] 27)).alloc (.cells #[.int .i64 3,.slice An items.length cn,.int .i64 s,.string x,.bool f] 30)).alloc (.cells #[.slice none 0 0,.slice none 0 0,.slice none 0 0,.slice none 0 0,.slice none 0 0] 35)=W0:=⟨_,rfl⟩;have ay:Below w.heap.size w W0:=by rw[<-af];exact Zq (Zq (Zq (ZX _ _) _) _) _
 have ah:Z5 W0 w.heap.size (.cells #[.int .i64 t.kind,.string t.text,.int .i64 t.cols,.slice A t.kids.length cap] 24):=by rw[<-af];exact(((Z5.at0 _ _).al _).al _).al _
 have av:Z5 W0 (w.heap.size+1) (.cells #[.slice Ap p.length cp,.slice Am m.length cm] 27):=by rw[<-af];exact((Z5.at1 _ _ _).al _).al _
 have ae:Z5 W0 (w.heap.size+1+1) (.cells #[.int .i64 3,.slice An items.length cn,.int .i64 s,.string x,.bool f] 30):=by rw[<-af];exact(Z5.at2 _ _ _ _).al _
 have aI:Hid (Z5 W0 (w.heap.size+1+1+1) (.cells #[.slice none 0 0,.slice none 0 0,.slice none 0 0,.slice none 0 0,.slice none 0 0] 35)):=by show Z5 _ _ _;rw[<-af];exact Z5.new _ _ _ (by simp)
 have HC:=hid (hC W0 ay);have aK:=hid ay;have m0:=ah.cell 0;have m1:=ah.cell 1;have m2:=ah.cell 2;have m3:=ah.cell 3;have n0:=av.cell 0;have n1:=av.cell 1;have c0:=ae.cell 0;have c1:=ae.cell 1;have c2:=ae.cell 2;have c3:=ae.cell 3;have c4:=ae.cell 4;simp only[List.getElem?_toArray,List.getElem?_cons_zero,List.getElem?_cons_succ] at m0 m1 m2 m3 n0 n1 c0 c1 c2 c3 c4;clear hC ay ah av ae;go_enter Tryz.func8,Tryz.ntmps8
 go_wp2_with fail
 refine HC.out.mono ?_;intro e wk ag;have az:=hid ag;obtain⟨aG,aC,aF,aB,aH,aD,ak,ai,au,aj,rfl,_,_,_,_,_,ax⟩:=ag;have aA:=hid (aI.out.below ax);have aJ:=hid (Zx aK.out ax);clear ax m0 m1 m2 m3 n0 n1 c0 c1 c2 c3 c4 af
 go_wp2_with (first
  |(refine wpList_store_row rfl 35 (.tmp 6) (.tmp 45) rfl (w.heap.size+1+1+1) #[.slice aG aa.1.ops.length aC,.slice aF aa.1.bp.length aB,.slice aH aa.1.bm.length aD,.slice ak aa.1.ap.length ai,.slice au aa.1.am.length aj] rfl rfl 35 _ aA.out (by kernel_rfl) (by simp) (by simp[Value.oneCell']) ?_)
  |fail)
 refine bodyPost_ret (v:=.tuple #[.agg #[.slice aG aa.1.ops.length aC,.slice aF aa.1.bp.length aB,.slice aH aa.1.bm.length aD,.slice ak aa.1.ap.length ai,.slice au aa.1.am.length aj],.int .i64 aa.2]) (WQ Tryz.results8 _ _ _ (w.heap.size+1+1+1) 35 _ (0,0) _ rfl (aA.out.row _) rfl Tryz.underlying35 (by kernel_rfl) _ rfl) rfl ?_;exact Zv.put (arr:=#[]) az.out aA.out (ZZ.setRow _ _ _) (size_setRow _ _ _) aJ.out (by omega)
theorem zWr (t:Z9) (p m:List Int) (s:Int) (items:List Z9) (x:ByteArray) (f:Bool) (A Ap Am An:Option Addr) (cap cp cm cn:Nat) (w:World) (aa:Za×Int)
  (hC:∀W,Below w.heap.size w W->Calls Tryz.prog 38 #[.agg #[.int .i64 t.kind,.string t.text,.int .i64 t.cols,.slice A t.kids.length cap],.agg #[.slice Ap p.length cp,.slice Am m.length cm]] W (Zv W aa)) :
  Calls Tryz.prog 15 #[.agg #[.int .i64 t.kind,.string t.text,.int .i64 t.cols,.slice A t.kids.length cap],.agg #[.slice Ap p.length cp,.slice Am m.length cm],.agg #[.int .i64 3,.slice An items.length cn,.int .i64 s,.string x,.bool f]] w (Zv w aa):=by
 obtain⟨W0,af⟩:∃W0,(((w.alloc (.cells #[.int .i64 t.kind,.string t.text,.int .i64 t.cols,.slice A t.kids.length cap] 24)).alloc (.cells #[.slice Ap p.length cp,.slice Am m.length cm] 27)).alloc (.cells #[.int .i64 3,.slice An items.length cn,.int .i64 s,.string x,.bool f] 30)).alloc (.cells #[.slice none 0 0,.slice none 0 0,.slice none 0 0,.slice none 0 0,.slice none 0 0] 35)=W0:=⟨_,rfl⟩;have ay:Below w.heap.size w W0:=by rw[<-af];exact Zq (Zq (Zq (ZX _ _) _) _) _
 have ah:Z5 W0 w.heap.size (.cells #[.int .i64 t.kind,.string t.text,.int .i64 t.cols,.slice A t.kids.length cap] 24):=by rw[<-af];exact(((Z5.at0 _ _).al _).al _).al _
 have av:Z5 W0 (w.heap.size+1) (.cells #[.slice Ap p.length cp,.slice Am m.length cm] 27):=by rw[<-af];exact((Z5.at1 _ _ _).al _).al _
 have ae:Z5 W0 (w.heap.size+1+1) (.cells #[.int .i64 3,.slice An items.length cn,.int .i64 s,.string x,.bool f] 30):=by rw[<-af];exact(Z5.at2 _ _ _ _).al _
 have aI:Hid (Z5 W0 (w.heap.size+1+1+1) (.cells #[.slice none 0 0,.slice none 0 0,.slice none 0 0,.slice none 0 0,.slice none 0 0] 35)):=by show Z5 _ _ _;rw[<-af];exact Z5.new _ _ _ (by simp)
 have HC:=hid (hC W0 ay);have aK:=hid ay;have m0:=ah.cell 0;have m1:=ah.cell 1;have m2:=ah.cell 2;have m3:=ah.cell 3;have n0:=av.cell 0;have n1:=av.cell 1;have c0:=ae.cell 0;have c1:=ae.cell 1;have c2:=ae.cell 2;have c3:=ae.cell 3;have c4:=ae.cell 4;simp only[List.getElem?_toArray,List.getElem?_cons_zero,List.getElem?_cons_succ] at m0 m1 m2 m3 n0 n1 c0 c1 c2 c3 c4;clear hC ay ah av ae;go_enter Tryz.func15,Tryz.ntmps15
 go_wp2_with fail
 refine HC.out.mono ?_;intro e wk ag;have az:=hid ag;obtain⟨aG,aC,aF,aB,aH,aD,ak,ai,au,aj,rfl,_,_,_,_,_,ax⟩:=ag;have aA:=hid (aI.out.below ax);have aJ:=hid (Zx aK.out ax);clear ax m0 m1 m2 m3 n0 n1 c0 c1 c2 c3 c4 af
 go_wp2_with (first
  |(refine wpList_store_row rfl 35 (.tmp 6) (.tmp 45) rfl (w.heap.size+1+1+1) #[.slice aG aa.1.ops.length aC,.slice aF aa.1.bp.length aB,.slice aH aa.1.bm.length aD,.slice ak aa.1.ap.length ai,.slice au aa.1.am.length aj] rfl rfl 35 _ aA.out (by kernel_rfl) (by simp) (by simp[Value.oneCell']) ?_)
  |fail)
 refine bodyPost_ret (v:=.tuple #[.agg #[.slice aG aa.1.ops.length aC,.slice aF aa.1.bp.length aB,.slice aH aa.1.bm.length aD,.slice ak aa.1.ap.length ai,.slice au aa.1.am.length aj],.int .i64 aa.2]) (WQ Tryz.results15 _ _ _ (w.heap.size+1+1+1) 35 _ (0,0) _ rfl (aA.out.row _) rfl Tryz.underlying35 (by kernel_rfl) _ rfl) rfl ?_;exact Zv.put (arr:=#[]) az.out aA.out (ZZ.setRow _ _ _) (size_setRow _ _ _) aJ.out (by omega)
theorem VX (t:Z9) (p m:List Int) (s:Int) (items:List Z9) (x:ByteArray) (f:Bool) (A Ap Am An:Option Addr) (cap cp cm cn:Nat) (w:World) (aa:Za×Int)
  (hC:∀W,Below w.heap.size w W->Calls Tryz.prog 27 #[.agg #[.int .i64 t.kind,.string t.text,.int .i64 t.cols,.slice A t.kids.length cap],.agg #[.slice Ap p.length cp,.slice Am m.length cm],.bool f] W (Zv W aa)) :
  Calls Tryz.prog 8 #[.agg #[.int .i64 t.kind,.string t.text,.int .i64 t.cols,.slice A t.kids.length cap],.agg #[.slice Ap p.length cp,.slice Am m.length cm],.agg #[.int .i64 6,.slice An items.length cn,.int .i64 s,.string x,.bool f]] w (Zv w aa):=by
 obtain⟨W0,af⟩:∃W0,(((w.alloc (.cells #[.int .i64 t.kind,.string t.text,.int .i64 t.cols,.slice A t.kids.length cap] 24)).alloc (.cells #[.slice Ap p.length cp,.slice Am m.length cm] 27)).alloc (.cells #[.int .i64 6,.slice An items.length cn,.int .i64 s,.string x,.bool f] 30)).alloc (.cells #[.slice none 0 0,.slice none 0 0,.slice none 0 0,.slice none 0 0,.slice none 0 0] 35)=W0:=⟨_,rfl⟩;have ay:Below w.heap.size w W0:=by rw[<-af];exact Zq (Zq (Zq (ZX _ _) _) _) _
 have ah:Z5 W0 w.heap.size (.cells #[.int .i64 t.kind,.string t.text,.int .i64 t.cols,.slice A t.kids.length cap] 24):=by rw[<-af];exact(((Z5.at0 _ _).al _).al _).al _
 have av:Z5 W0 (w.heap.size+1) (.cells #[.slice Ap p.length cp,.slice Am m.length cm] 27):=by rw[<-af];exact((Z5.at1 _ _ _).al _).al _
 have ae:Z5 W0 (w.heap.size+1+1) (.cells #[.int .i64 6,.slice An items.length cn,.int .i64 s,.string x,.bool f] 30):=by rw[<-af];exact(Z5.at2 _ _ _ _).al _
 have aI:Hid (Z5 W0 (w.heap.size+1+1+1) (.cells #[.slice none 0 0,.slice none 0 0,.slice none 0 0,.slice none 0 0,.slice none 0 0] 35)):=by show Z5 _ _ _;rw[<-af];exact Z5.new _ _ _ (by simp)
 have HC:=hid (hC W0 ay);have aK:=hid ay;have m0:=ah.cell 0;have m1:=ah.cell 1;have m2:=ah.cell 2;have m3:=ah.cell 3;have n0:=av.cell 0;have n1:=av.cell 1;have c0:=ae.cell 0;have c1:=ae.cell 1;have c2:=ae.cell 2;have c3:=ae.cell 3;have c4:=ae.cell 4;simp only[List.getElem?_toArray,List.getElem?_cons_zero,List.getElem?_cons_succ] at m0 m1 m2 m3 n0 n1 c0 c1 c2 c3 c4;clear hC ay ah av ae;go_enter Tryz.func8,Tryz.ntmps8
 go_wp2_with fail
 refine HC.out.mono ?_;intro e wk ag;have az:=hid ag;obtain⟨aG,aC,aF,aB,aH,aD,ak,ai,au,aj,rfl,_,_,_,_,_,ax⟩:=ag;have aA:=hid (aI.out.below ax);have aJ:=hid (Zx aK.out ax);clear ax m0 m1 m2 m3 n0 n1 c0 c1 c2 c3 c4 af
 go_wp2_with (first
  |(refine wpList_store_row rfl 35 (.tmp 6) (.tmp 70) rfl (w.heap.size+1+1+1) #[.slice aG aa.1.ops.length aC,.slice aF aa.1.bp.length aB,.slice aH aa.1.bm.length aD,.slice ak aa.1.ap.length ai,.slice au aa.1.am.length aj] rfl rfl 35 _ aA.out (by kernel_rfl) (by simp) (by simp[Value.oneCell']) ?_)
  |fail)
 refine bodyPost_ret (v:=.tuple #[.agg #[.slice aG aa.1.ops.length aC,.slice aF aa.1.bp.length aB,.slice aH aa.1.bm.length aD,.slice ak aa.1.ap.length ai,.slice au aa.1.am.length aj],.int .i64 aa.2]) (WQ Tryz.results8 _ _ _ (w.heap.size+1+1+1) 35 _ (0,0) _ rfl (aA.out.row _) rfl Tryz.underlying35 (by kernel_rfl) _ rfl) rfl ?_;exact Zv.put (arr:=#[]) az.out aA.out (ZZ.setRow _ _ _) (size_setRow _ _ _) aJ.out (by omega)
theorem zWp (t:Z9) (p m:List Int) (s:Int) (items:List Z9) (x:ByteArray) (f:Bool) (A Ap Am An:Option Addr) (cap cp cm cn:Nat) (w:World) (aa:Za×Int)
  (hC:∀W,Below w.heap.size w W->Calls Tryz.prog 41 #[.agg #[.int .i64 t.kind,.string t.text,.int .i64 t.cols,.slice A t.kids.length cap],.agg #[.slice Ap p.length cp,.slice Am m.length cm],.bool f] W (Zv W aa)) :
  Calls Tryz.prog 15 #[.agg #[.int .i64 t.kind,.string t.text,.int .i64 t.cols,.slice A t.kids.length cap],.agg #[.slice Ap p.length cp,.slice Am m.length cm],.agg #[.int .i64 6,.slice An items.length cn,.int .i64 s,.string x,.bool f]] w (Zv w aa):=by
 obtain⟨W0,af⟩:∃W0,(((w.alloc (.cells #[.int .i64 t.kind,.string t.text,.int .i64 t.cols,.slice A t.kids.length cap] 24)).alloc (.cells #[.slice Ap p.length cp,.slice Am m.length cm] 27)).alloc (.cells #[.int .i64 6,.slice An items.length cn,.int .i64 s,.string x,.bool f] 30)).alloc (.cells #[.slice none 0 0,.slice none 0 0,.slice none 0 0,.slice none 0 0,.slice none 0 0] 35)=W0:=⟨_,rfl⟩;have ay:Below w.heap.size w W0:=by rw[<-af];exact Zq (Zq (Zq (ZX _ _) _) _) _
 have ah:Z5 W0 w.heap.size (.cells #[.int .i64 t.kind,.string t.text,.int .i64 t.cols,.slice A t.kids.length cap] 24):=by rw[<-af];exact(((Z5.at0 _ _).al _).al _).al _
 have av:Z5 W0 (w.heap.size+1) (.cells #[.slice Ap p.length cp,.slice Am m.length cm] 27):=by rw[<-af];exact((Z5.at1 _ _ _).al _).al _
 have ae:Z5 W0 (w.heap.size+1+1) (.cells #[.int .i64 6,.slice An items.length cn,.int .i64 s,.string x,.bool f] 30):=by rw[<-af];exact(Z5.at2 _ _ _ _).al _
 have aI:Hid (Z5 W0 (w.heap.size+1+1+1) (.cells #[.slice none 0 0,.slice none 0 0,.slice none 0 0,.slice none 0 0,.slice none 0 0] 35)):=by show Z5 _ _ _;rw[<-af];exact Z5.new _ _ _ (by simp)
 have HC:=hid (hC W0 ay);have aK:=hid ay;have m0:=ah.cell 0;have m1:=ah.cell 1;have m2:=ah.cell 2;have m3:=ah.cell 3;have n0:=av.cell 0;have n1:=av.cell 1;have c0:=ae.cell 0;have c1:=ae.cell 1;have c2:=ae.cell 2;have c3:=ae.cell 3;have c4:=ae.cell 4;simp only[List.getElem?_toArray,List.getElem?_cons_zero,List.getElem?_cons_succ] at m0 m1 m2 m3 n0 n1 c0 c1 c2 c3 c4;clear hC ay ah av ae;go_enter Tryz.func15,Tryz.ntmps15
 go_wp2_with fail
 refine HC.out.mono ?_;intro e wk ag;have az:=hid ag;obtain⟨aG,aC,aF,aB,aH,aD,ak,ai,au,aj,rfl,_,_,_,_,_,ax⟩:=ag;have aA:=hid (aI.out.below ax);have aJ:=hid (Zx aK.out ax);clear ax m0 m1 m2 m3 n0 n1 c0 c1 c2 c3 c4 af
 go_wp2_with (first
  |(refine wpList_store_row rfl 35 (.tmp 6) (.tmp 70) rfl (w.heap.size+1+1+1) #[.slice aG aa.1.ops.length aC,.slice aF aa.1.bp.length aB,.slice aH aa.1.bm.length aD,.slice ak aa.1.ap.length ai,.slice au aa.1.am.length aj] rfl rfl 35 _ aA.out (by kernel_rfl) (by simp) (by simp[Value.oneCell']) ?_)
  |fail)
 refine bodyPost_ret (v:=.tuple #[.agg #[.slice aG aa.1.ops.length aC,.slice aF aa.1.bp.length aB,.slice aH aa.1.bm.length aD,.slice ak aa.1.ap.length ai,.slice au aa.1.am.length aj],.int .i64 aa.2]) (WQ Tryz.results15 _ _ _ (w.heap.size+1+1+1) 35 _ (0,0) _ rfl (aA.out.row _) rfl Tryz.underlying35 (by kernel_rfl) _ rfl) rfl ?_;exact Zv.put (arr:=#[]) az.out aA.out (ZZ.setRow _ _ _) (size_setRow _ _ _) aJ.out (by omega)
section
variable {P:Program} (w:World)
theorem zR5 (base:Nat) (t tn ty e:TypeId) (i:TypeInfo) (z:Value) (kq kn:IntKind) (size bytes:Nat) (ht:P.underlying t=some (.slice e)) (az:P.underlying tn=some (.int kn)) (hi:P.info? e=some i) (hz:i.zero=some z)
  (au:i.size=size) (aO:i.bytes=bytes) (aI:z.cells.size=size) (hsz:0<size)
  (v:Value) (n:Nat) (xs:List Value) (ae:w.ownsRow base e size v n xs) (k:Nat) (h0:0<k) (h1:∀u∈(Builtin.zeroCells z.cells k).toList,u.oneCell'=true)
  (aK:n+k<=maxLen) (aj:(n+k)*bytes<=140737488355328) (ax:base<=w.heap.size) :
  ∃v' w',(Builtin.append_ #[t,tn] ty #[v,.int kq k]).run P w=.ok v' w'/\w'.ownsRow base e size v' (n+k) (xs++(Builtin.zeroCells z.cells k).toList)/\w.grownBy w' v.ownBlock:=by
 subst au;subst aO;obtain⟨aa,ag⟩:∃aa,(Builtin.zeroCells z.cells k).toList=aa:=⟨_,rfl⟩;have aD:Builtin.zeroCells z.cells k=aa.toArray:=by rw[<-ag]
 have hl:aa.length=k*i.size:=by rw[<-ag,<-aI];simp[size_zeroCells]
 rw[ag] at h1 ⊢;have aA:n+k<=9223372036854775807:=by simp only[maxLen] at aK;omega
 have av:k*i.bytes<=281474976710656:=by
  have:k*i.bytes<=(n+k)*i.bytes:=Nat.mul_le_mul_right _ (by omega);omega
 have ah:(xs++aa).length=(n+k)*i.size:=by rw[List.length_append,ae.1,hl,Nat.add_mul]
 have grown:∀(old:Nat),old<n+k->∀(row:Option Nat),
   (w.drew.alloc (.cells (xs.toArray++aa.toArray++Builtin.zeroCells z.cells (grownCap w (n+k) old e-(n+k))) e)).ownsRow base e i.size
    (.slice (some ⟨w.heap.size,0,none⟩) (n+k) (grownCap w (n+k) old e)) (n+k) (xs++aa) /\
   w.grownBy (w.drew.alloc (.cells (xs.toArray++aa.toArray++Builtin.zeroCells z.cells (grownCap w (n+k) old e-(n+k))) e)) row:=by
  intro old ho row;have aM:=grownCap_ge w (n+k) old e;have aG:grownCap w (n+k) old e<=maxLen:=grownCap_le_maxLen w (n+k) old e aK;refine⟨⟨ah,.inr ⟨w.heap.size,_,_,rfl,ax,heap_alloc_new w.drew _,aM,aG,?_,?_⟩⟩,⟨rfl,rfl,rfl,by simp,fun k hk _=>Below.heap_alloc w.drew _ k hk⟩⟩
  ·simp only[Array.size_append,List.size_toArray,size_zeroCells,aI,ae.1,hl,<-Nat.add_mul];congr 1;omega
  simp only[Array.toList_append,List.append_assoc];rw[<-List.append_assoc,<-ah];exact List.take_left
 rcases ae.2 with ⟨rfl,rfl⟩|⟨g,cap,ay,rfl,aP,hg,hnc,aG,aN,ak⟩
 ·have hx:xs=[]:=List.eq_nil_of_length_eq_zero (by simpa using ae.1);subst hx;have hr:=Lib.run_append_nil_zeros (P:=P) w t tn ty e i z kq kn ht az hi hz k h0 (by omega) (by omega) av;have ai:=grown 0 (by omega) (Value.ownBlock (.slice none 0 0));simp only[Nat.zero_add,List.nil_append,Array.empty_append] at ai ⊢;rw[<-aD] at ai;exact⟨_,_,hr,ai.1,ai.2⟩
 by_cases af:n+k<=cap
 ·have aF:n*i.size+aa.length<=ay.size:=by rw[hl,aN,<-Nat.add_mul];exact Nat.mul_le_mul_right _ af
  have aJ:=run_storeCells_at P g (n*i.size) e aa 0 ay w hg (by simpa using aF) h1;simp only[Nat.add_zero] at aJ;have hw:IntKind.i64.wrap (k:Int)=k:=by rw[IntKind.wrap_i64];omega
  have aC:¬((k:Int)<0):=by omega
  have aH:¬(281474976710656<(k:Int)*(i.bytes:Int)):=by
   rw[<-Int.natCast_mul];omega
  have aL:¬(k*i.size=0):=Nat.mul_ne_zero (by omega) (by omega);have hr:(Builtin.append_ #[t,tn] ty #[.slice (some ⟨g,0,none⟩) n cap,.int kq k]).run P w=.ok (.slice (some ⟨g,0,none⟩) (n+k) cap) (w.setRow g (ay.toList.take (n*i.size)++aa++ay.toList.drop (n*i.size+aa.length)).toArray):=by
   simp[Builtin.append_,run_underlying ht,run_underlying az,sizeOf,typeInfo,zeroValue,hi,hz,asInt,asIntOf,hw,aC,aH,aL,af,Addr.add_lit,aD,aJ]
  refine⟨_,_,hr,⟨ah,.inr ⟨g,cap,_,rfl,aP,setRow_heap w g ay _ e _ hg,af,aG,?_,?_⟩⟩,⟨rfl,rfl,rfl,by simp,fun k _ hk=>setRow_other w g k _ (fun e=>hk (by simp[Value.ownBlock,e]))⟩⟩
  ·simp only[List.size_toArray,List.length_append,List.length_take,List.length_drop,Array.length_toList];omega
  rw[ak,<-ah];exact List.take_left
 have holds:∀j u,xs[j]?=some u->w.cell? ((⟨g,0,none⟩:Addr).add j)=some u:=ae.cells (g:=g) rfl;have aB:(Builtin.firstCells i.size n (.slice (some ⟨g,0,none⟩) n cap)).run P w.drew=.ok xs.toArray w.drew:=run_firstCells_some w.drew i.size n _ n cap xs ae.1 holds;have hr:=Lib.run_append_grow_zeros (P:=P) w t tn ty e i z kq kn ht az hi hz (some ⟨g,0,none⟩) n cap xs aB k h0 (by omega) (by omega) (by omega) av (growslice_fits (by omega) aj);have ai:=grown cap (by omega) (Value.ownBlock (.slice (some ⟨g,0,none⟩) n cap));rw[<-aD] at ai;exact⟨_,_,hr,ai.1,ai.2⟩
end
theorem zTs (k:Nat) (w:World) (S:Nat->Prop):ZK Z7 w S (List.replicate k ZJ) (Builtin.zeroCells zN.cells k).toList:=by
 induction k with
 |zero=>simp[Builtin.zeroCells,ZK]
 |
  succ k ih =>
  have h1:(Builtin.zeroCells zN.cells (k+1)).toList=(Builtin.zeroCells zN.cells k).toList++[.int .i64 0,.string ⟨#[]⟩,.int .i64 0,.slice none 0 0]:=by
   unfold Builtin.zeroCells;have h4:zN.cells.size=4:=rfl;rw[h4,Nat.add_mul,Nat.one_mul];simp only[Array.toList_map,Array.toList_range];rw[show k*4+4=k*4+1+1+1+1 from rfl,List.range_succ,List.range_succ,List.range_succ,List.range_succ];simp only[List.map_append,List.map_cons,List.map_nil,List.append_assoc,List.cons_append,List.nil_append];congr 1;have e0:k*4 % 4=0:=by omega
   have e1:(k*4+1) % 4=1:=by omega
   have e2:(k*4+1+1) % 4=2:=by omega
   have e3:(k*4+1+1+1) % 4=3:=by omega
   rw[e0,e1,e2,e3];rfl
  rw[h1,List.replicate_succ'];exact ih.append (ZK.single (YI.2 ⟨_,rfl,by simp[Z4,ZJ,Z9.kind],by simp[Z4,ZJ,Z9.cols],QU _,Z8.nil_ 0 (QU _) none⟩))
theorem appZ {w:World} {b:Nat} {S:Nat->Prop} {xss:List Z9} {v:Value} {ops:Array Oper} {rest:List Oper} {o:Oper} {a:Act} {Q:Exit->Act->World->Prop} (ax:o.guard=none) (s x:Operand)
  (ho:o.op=.call { callee:=.builtin .append,args:=#[s,x],argTypes:=#[22,3] })
  (ay:∀k,S k->k<b) (hs:a.eval s=v) (aa:ZH w b S xss v) (k:Nat) (h0:0<k) (hx:a.eval x=.int .i64 k)
  (ae:xss.length+k<=1000000000) (hb:b<=w.heap.size)
  (h:∀v' w',ZH w' b S (xss++List.replicate k ZJ) v'->Below b w w'->wpList Tryz.prog ops Q rest (a.put o.dst v') w'):wpList Tryz.prog ops Q (o::rest) a w:=by
 obtain⟨i0,av,ak,aj,ai⟩:=info_parts TD;obtain⟨cs,ag,au⟩:=aa;have af:=zTs k w S;obtain⟨v',w',hr,h3,h4⟩:=zR5 (P:=Tryz.prog) w b 22 3 o.type 24 i0 zN .i64 .i64 4 56 Tryz.underlying22 Tryz.underlying3 av ak aj ai rfl (by omega) v _ _ ag k h0 af.one (by simp only[maxLen];omega) (by omega) hb;have ah:=WF _ ag h4 hb;exact Lib.wpList_append_run w ax s x 22 3 ho v (.int .i64 k) hs hx v' w' hr (h v' w' ⟨cs++_,by rw[List.length_append,List.length_replicate];exact h3,(au.append af).keep (fun p hp=>ah.cell (ay _ hp)) (fun _ h=>h)⟩ ah)
def VQ (z:Z9) (c s:Nat) (columns:Bool) (i:Nat):List Z9 :=
 (if columns=true/\i % c=s % c then [Z6 []] else [])++(if columns=false/\i=s / c*c+c-1 then List.replicate c z else [])
def Zm (z:Z9) (c s:Nat) (columns:Bool) (ts:List Z9):Nat->List Z9
 |0=>[]
 |k+1=>Zm z c s columns ts k++(ts.getD k ZJ::VQ z c s columns k)
theorem zVf (c s:Nat) (hc:0<c) (columns:Bool) (ts:List Z9):∀n k,n+k=ts.length->Zm (Z6 []) c s columns ts k++TB (c:Int) (s:Int) columns (ts.drop k) (k:Int)=Zm (Z6 []) c s columns ts ts.length:=by
 intro n;induction n with
 |
  zero =>
  intro k hk;have e:k=ts.length:=by omega
  subst e;rw[List.drop_length,TB,List.append_nil]
 |
  succ n ih =>
  intro k hk;have aa:k<ts.length:=by omega
  rw[<-ih (k+1) (by omega),List.drop_eq_getElem_cons aa,TB,Zm];have e1:ts.getD k ZJ=ts[k]:=by rw[List.getD_eq_getElem?_getD,List.getElem?_eq_getElem aa];rfl
  have e2:((k:Int).tmod (c:Int)=(s:Int).tmod (c:Int))↔(k % c=s % c):=by
   rw[<-Int.ofNat_tmod,<-Int.ofNat_tmod];omega
  have e3:((k:Int)=(s:Int).tdiv (c:Int)*(c:Int)+(c:Int)-1)↔(k=s / c*c+c-1):=by
   rw[<-Int.ofNat_tdiv];generalize hq:s / c=q;have e:((q*c:Nat):Int)=(q:Int)*(c:Int):=Int.natCast_mul q c;rw[<-e];omega
  rw[e1];simp only[e2,e3,Int.toNat_natCast,VQ,List.append_assoc,List.cons_append,List.nil_append];rfl
theorem zSr (c s:Nat) (hc:0<c) (columns:Bool) (ts:List Z9):TB (c:Int) (s:Int) columns ts 0=Zm (Z6 []) c s columns ts ts.length:=by
 have h:=zVf c s hc columns ts ts.length 0 (by omega);simpa[Zm] using h
theorem zSt (z:Z9) (c s:Nat) (columns:Bool) (ts:List Z9) (n:Nat):∀k,k<=n->Zm z c s columns (ts.take n) k=Zm z c s columns ts k
 |0,_=>rfl
 |
  k+1,h=>by
  rw[Zm,Zm,zSt z c s columns ts n k (by omega)];congr 2;rw[List.getD_eq_getElem?_getD,List.getD_eq_getElem?_getD,List.getElem?_take,if_pos (by omega)]
theorem Vi {c d:Nat} (hd:d<c) (k:Nat):(k+1+d) / c=(k+d) / c+(if k % c=c-1-d then 1 else 0):=by
 have h:=Nat.div_add_mod k c;have hb:=Nat.mod_lt k (show 0<c by omega);generalize k / c=a at *;generalize k % c=b at *;have aa:∀x,x<2*c->(c*a+x) / c=a+(if c<=x then 1 else 0):=fun x hx=>by
  rw[Nat.mul_add_div (by omega)];by_cases h1:c<=x
  ·rw[if_pos h1,show x / c=1 from Nat.div_eq_of_lt_le (by omega) (by omega)]
  rw[if_neg h1,show x / c=0 from Nat.div_eq_of_lt (by omega)]
 rw[<-h,show c*a+b+1+d=c*a+(b+1+d) by omega,show c*a+b+d=c*a+(b+d) by omega,aa _ (by omega),aa _ (by omega)];split<;>split<;>split<;>omega
theorem zTq (z:Z9) (c s:Nat) (hc:0<c) (ts:List Z9):∀k,(Zm z c s true ts k).length=k+(k+(c-1-s % c)) / c
 |0=>by simp[Zm];exact(Nat.div_eq_of_lt (by omega)).symm
 |
  k+1=>by
  have hm:=Nat.mod_lt s hc;rw[Zm,List.length_append,zTq z c s hc ts k,Vi (by omega) k];simp only[List.length_cons,VQ,List.length_append];rw[show c-1-(c-1-s % c)=s % c by omega];by_cases h:k % c=s % c
  ·simp[h];omega
  simp[h];omega
theorem zTr (z:Z9) (c s:Nat) (hc:0<c) (ts:List Z9):∀k,k<=s->(Zm z c s false ts k).length=k
 |0,_=>rfl
 |
  k+1,h=>by
  have hm:=Nat.div_add_mod s c;have hl:=Nat.mod_lt s hc;have hk:k≠s / c*c+c-1:=by rw[Nat.mul_comm];omega
  rw[Zm,List.length_append,zTr z c s hc ts k (by omega)];simp[VQ,hk]
def WO (c s:Nat) (columns:Bool):Nat:=if columns then s / c*(c+1)+s % c else s
theorem zVb (c s:Nat) (hc:0<c) (columns:Bool) (ts:List Z9) (hs:s<=ts.length):(TB (c:Int) (s:Int) columns (ts.take s) 0).length=WO c s columns:=by
 rw[zSr c s hc columns];have e:(ts.take s).length=s:=by simp;omega
 rw[e,zSt (Z6 []) c s columns ts s s (QT _)];cases columns
 ·rw[zTr _ c s hc ts s (Nat.le_refl _)];rfl
 rw[zTq _ c s hc ts s];have hm:=Nat.div_add_mod s c;have hl:=Nat.mod_lt s hc;have h1:(s+(c-1-s % c)) / c=s / c:=by
  rw[show s+(c-1-s % c)=c*(s / c)+(c-1) by omega,Nat.mul_add_div hc,show (c-1) / c=0 from Nat.div_eq_of_lt (by omega)];rfl
 rw[h1];unfold WO;rw[if_pos rfl,Nat.mul_add,Nat.mul_one,Nat.mul_comm (s / c) c];omega
def Wp (t:Z9):Z9:=.mk 1 t.text t.cols t.kids
theorem zVs (c s:Nat) (columns:Bool) (ts:List Z9) (h1:∀x∈ts,x.kind=1):∀k,k<=ts.length->(Zm ZJ c s columns ts k).map Wp=Zm (Z6 []) c s columns ts k
 |0,_=>rfl
 |
  k+1,hk=>by
  have e1:ts.getD k ZJ=ts[k]:=by rw[List.getD_eq_getElem?_getD,List.getElem?_eq_getElem (by omega)];rfl
  have e2:Wp ts[k]=ts[k]:=by
   have:=h1 ts[k] (List.getElem_mem _);unfold Wp;rw[<-this];cases ts[k];rfl
  rw[Zm,Zm,List.map_append,zVs c s columns ts h1 k (by omega),List.map_cons,e1,e2];congr 2;unfold VQ;rw[List.map_append];congr 1
  ·split<;>rfl
  split
  ·rw[List.map_replicate];rfl
  rfl
theorem zUe (z:Z9) (c s:Nat) (columns:Bool) (ts:List Z9):∀k,(Zm z c s columns ts k).length<=k*(c+2)
 |0=>by simp[Zm]
 |
  k+1=>by
  have:=zUe z c s columns ts k;rw[Zm,List.length_append,Nat.add_mul];have h2:(VQ z c s columns k).length<=c+1:=by
   unfold VQ;rw[List.length_append];split<;>split<;>simp<;>omega
  simp only[List.length_cons];omega
theorem zTw {it:Z9} (h:Zd it=true) (hk:it.kind=12):∃c:Nat,it.cols=(c:Int)/\1<=c/\c<=16/\it.kids.length<=256/\it.kids.length % c=0/\∀x∈it.kids,x.kind=1:=by
 have h2:=zTl h;unfold Zw at h2;rw[if_pos hk] at h2;simp only[Bool.and_eq_true,decide_eq_true_eq,beq_iff_eq] at h2;obtain⟨c,hc⟩:∃c:Nat,it.cols=(c:Int):=⟨it.cols.toNat,by omega⟩;rw[hc] at h2;refine⟨c,hc,by omega,by omega,by omega,by have:=h2.2;omega,fun x hx=>?_⟩;obtain⟨j,hj,rfl⟩:=List.mem_iff_getElem.1 hx;have:=(Wo h hj).2;rw[hk] at this;simpa using this
theorem zS3 (t:Z9) (p m:List Int) (columns:Bool):((ZI t p m).2≠0->Xe t p m columns=(Zo,(ZI t p m).2))/\((ZI t p m).2=0->Zz t p=none->Xe t p m columns=(Zo,8)) /\
  (∀rr ra rb q2 i (s':Nat) it o,ZI t p m=((rr,ra,rb),0)->Zz t p=some ⟨q2,i,(s':Int),it⟩->p=q2++[i,(s':Int)]++[o]->s'<it.kids.length ->
   (it.kind≠12->Xe t p m columns=(Zo,7)) /\
   (it.kind=12->∃c:Nat,it.cols=(c:Int)/\1<=c/\c<=16/\it.kids.length<=256/\(∀x∈it.kids,x.kind=1) /\
    Xe t p m columns=XW t p m [Yn q2 i [it],Yc q2 i [.mk 12 ZQ (if columns then (c:Int)+1 else (c:Int)) (Zm (Z6 []) c s' columns it.kids it.kids.length)]] (q2++[i,(WO c s' columns:Int),o]) [])):=by
 refine⟨fun h=>?_,fun h h1=>?_,fun rr ra rb q2 i s' it o h h1 hp h2=>⟨fun hc=>?_,fun hc=>?_⟩⟩
 ·unfold Xe;rw[if_pos h]
 ·unfold Xe;rw[if_neg (by simp[h]),h1]
 ·unfold Xe;rw[h,if_neg (by simp),h1];simp only;rw[if_pos hc]
 obtain⟨hv,aa,_⟩:=VM (t:=t) (p:=p) (m:=m) (by rw[h]);have ae:=aa;rw[hp] at ae;have ha:=Q8 hv ae;rw[<-hp,h1] at ha;obtain⟨f1,f2⟩:=zVd hv ae;have he:it=ZY (ZM t q2).1 i:=by injection ha with ha;injection ha
 rw[<-he] at f1 f2;obtain⟨c,af,c1,c2,c3,c4,c5⟩:=zTw f1 hc;refine⟨c,af,c1,c2,c3,c5,?_⟩;have e2:p.getLastD 0=o:=by rw[hp];simp
 unfold Xe;rw[h,if_neg (by simp),h1];simp only;rw[if_neg (by simpa using hc),e2,af,Int.toNat_natCast,zVb c s' (by omega) columns it.kids (by omega),zSr c s' (by omega)];rfl
theorem Tv {w:World} {b:Nat} {S:Nat->Prop} {xss yss:List Z9} {v:Value} {ops:Array Oper} {rest:List Oper} {o:Oper} {a:Act} {Q:Exit->Act->World->Prop} (ay:o.guard=none) (s x:Operand)
  (ho:o.op=.call { callee:=.builtin .append,args:=#[s,x],argTypes:=#[22,22] })
  (az:∀k,S k->k<b) (hs:a.eval s=v) (aa:ZH w b S xss v) (B:Nat->Prop) (A:Option Addr) (m c:Nat) (rs:List Value) (hx:a.eval x=.slice A m c) (hm:m=yss.length) (au:Zl w B A rs) (ae:ZK Z7 w S yss rs)
  (af:xss.length+yss.length<=1000000000) (hb:b<=w.heap.size)
  (h:∀v' w',ZH w' b S (xss++yss) v'->Below b w w'->wpList Tryz.prog ops Q rest (a.put o.dst v') w'):wpList Tryz.prog ops Q (o::rest) a w:=by
 subst hm;obtain⟨i0,ax,ak,aj,ai⟩:=info_parts TD;obtain⟨cs,ag,av⟩:=aa;have hl:=ae.len;refine UG w ay s x 22 ho b 24 i0 _ 4 56 Tryz.underlying22 ax ak aj ai rfl (by omega) v _ _ hs ag _ A _ c rs hx hl au ae.one (by simp only[maxLen];omega) (by omega) hb ?_;intro v' w' h3 h4 h5;have ah:=WF _ ag h4 hb;exact h v' w' (zJf az av ae h3 ah) ah
theorem ZH.sl {w:World} {b:Nat} {S:Nat->Prop} {ts:List Z9} {v:Value} (h:ZH w b S ts v):∃A n c,v=.slice A n c:=by
 obtain⟨A,c,e⟩:=h.form;exact⟨A,_,c,e⟩
theorem ZH.kept {w w':World} {b g:Nat} {S:Nat->Prop} {ts:List Z9} {v:Value} (h:ZH w b S ts v) (hk:ZZ (fun k=>k=g) w w') (hg:g<b) (hS:∀k,S k->k<w.heap.size/\k≠g):ZH w' b S ts v:=by
 obtain⟨cs,⟨hl,h1⟩,h2⟩:=h;refine⟨cs,⟨hl,?_⟩,h2.keep (fun p hp=>hk.cell (hS _ hp).1 (hS _ hp).2) (fun _ h=>h)⟩;rcases h1 with h1|⟨g',cap,ae,rfl,aa,hh,p1,p2,p3,p4⟩
 ·exact .inl h1
 refine .inr ⟨g',cap,ae,rfl,aa,?_,p1,p2,p3,p4⟩;rw[hk.block g' (Array.getElem?_eq_some_iff.1 hh).1 (by omega)];exact hh
theorem ZK.kind {w:World} {S:Nat->Prop}:∀(ts:List Z9) (cs:List Value) (i:Nat),ZK Z7 w S ts cs->ZK Z7 w S (ts.set i (Wp (ts.getD i ZJ))) (cs.set (i*4) (.int .i64 1))
 |
  [],cs,i,h=>by
  simp only[ZK] at h;subst h;simp[ZK]
 |
  t::ts,cs,0,h=>by
  obtain⟨c,r,rfl,hc,hr⟩:=h;obtain⟨v,rfl,a1,a2,a3,a4⟩:=YI.1 hc;exact⟨[.int .i64 1,.string t.text,.int .i64 t.cols,v],r,rfl,YI.2 ⟨v,rfl,by simp[Z4,Wp,Z9.kind],a2,a3,a4⟩,hr⟩
 |
  t::ts,cs,i+1,h=>by
  obtain⟨c,r,rfl,hc,hr⟩:=h;obtain⟨v,rfl,a1,a2,a3,a4⟩:=YI.1 hc;refine⟨[.int .i64 t.kind,.string t.text,.int .i64 t.cols,v],r.set (i*4) (.int .i64 1),?_,hc,ZK.kind ts r i hr⟩;rw[List.set_append_right _ _ (by simp;omega)];congr 2;simp;omega
theorem ZH.kind {w:World} {b g n c:Nat} {S:Nat->Prop} {ts:List Z9} (h:ZH w b S ts (.slice (some ⟨g,0,none⟩) n c)) (hn:n=ts.length) (hS:∀k,S k->k<b) (hbg:b<=g) (i:Nat) :
  ZH (w.setCell ⟨g,i*4,none⟩ (.int .i64 1)) b S (ts.set i (Wp (ts.getD i ZJ))) (.slice (some ⟨g,0,none⟩) n c):=by
 subst hn;obtain⟨cs,h1,h2⟩:=h;refine⟨cs.set (i*4) (.int .i64 1),?_,?_⟩
 ·rw[List.length_set];exact(h1.stored (i*4) (.int .i64 1)).1
 refine(ZK.kind ts cs i h2).keep (fun p hp=>?_) (fun _ h=>h);have:=hS _ hp;exact World.cell?_of_block (Below.heap_setCell w _ _ _ (by simp;omega))
def Wq (ts:List Z9) (j:Nat):List Z9:=(ts.take j).map Wp++ts.drop j
theorem zSi (ts:List Z9) (j:Nat):(Wq ts j).length=ts.length:=by unfold Wq;simp;omega
theorem zTu (ts:List Z9) {j:Nat} (hj:j<ts.length):(Wq ts j).set j (Wp ((Wq ts j).getD j ZJ))=Wq ts (j+1):=by
 have hl:((ts.take j).map Wp).length=j:=by simp;omega
 have e1:ts.drop j=ts[j]::ts.drop (j+1):=List.drop_eq_getElem_cons hj;have e2:(Wq ts j).getD j ZJ=ts[j]:=by
  unfold Wq;rw[List.getD_eq_getElem?_getD,List.getElem?_append_right (by omega),hl,Nat.sub_self,e1];rfl
 rw[e2];unfold Wq;rw[List.set_append_right _ _ (by omega),hl,Nat.sub_self,e1,List.set_cons_zero,List.take_succ_eq_append_getElem hj,List.map_append,List.append_assoc];rfl
theorem zUo (ts:List Z9):Wq ts ts.length=ts.map Wp:=by unfold Wq;simp
theorem zUf (c s:Nat) (columns:Bool) (ts:List Z9):∀k,k<=ts.length->ZT (Zm (Z6 []) c s columns ts k)<=ZT (ts.take k)+k*(c+1)
 |0,_=>by simp[Zm,ZT]
 |
  k+1,hk=>by
  have ih:=zUf c s columns ts k (by omega);have e1:ts.getD k ZJ=ts[k]:=by rw[List.getD_eq_getElem?_getD,List.getElem?_eq_getElem (by omega)];rfl
  have aa:∀n,ZT (List.replicate n (Z6 []))=n:=fun n=>by
   induction n with
   |zero=>rfl
   |
    succ n ih =>
    have h1:ZW (Z6 [])=1:=rfl;rw[List.replicate_succ,ZT,ih,h1];omega
  have hp:ZT (VQ (Z6 []) c s columns k)<=c+1:=by
   unfold VQ;rw[Ua];have h2:ZT (if columns=true/\k % c=s % c then [Z6 []] else [])<=1:=by split<;>simp[ZT,Z6,ZW]
   have h3:ZT (if columns=false/\k=s / c*c+c-1 then List.replicate c (Z6 []) else [])<=c:=by
    split
    ·rw[aa];exact QT _
    exact QU _
   omega
  rw[Zm,Ua,WV (by omega:k<ts.length),e1];simp only[ZT];rw[Nat.add_mul];omega
