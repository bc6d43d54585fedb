/- T -/
import Derived.Test.YthpngeboknmllaaGreatQ24b1
import Derived.Test.YthpngeboknmllaaGreatQbf95
set_option linter.unusedVariables false
set_option linter.unusedSimpArgs false
set_option maxHeartbeats 8000000
set_option maxRecDepth 100000
namespace Go.Proofs.YthpngeboknmllaaGreat
open Go.RowKit
theorem ZZ.setRow (w:World) (g:Nat) (cs:Array Value):ZZ (fun k=>k=g) w (w.setRow g cs):=⟨rfl,rfl,rfl,by rw[size_setRow];exact QT _,fun k _ hn=>setRow_other _ _ _ _ hn⟩
def RecP (B:Nat) (N:Nat->Prop) (w:World) (r:Za×Int) (e:Ending) (w':World):Prop :=
 ∃vo vbp vbm vap vam,e=.returned (.tuple #[.agg #[vo,vbp,vbm,vap,vam],.int .i64 r.2])/\Z8 Zb w' (fun k=>B<k/\k<w'.heap.size) r.1.ops vo/\Z0 w' (fun k=>B<k/\k<w'.heap.size) r.1.bp vbp/\Z0 w' (fun k=>B<k/\k<w'.heap.size) r.1.bm vbm/\Z0 w' (fun k=>B<k/\k<w'.heap.size) r.1.ap vap/\Z0 w' (fun k=>B<k/\k<w'.heap.size) r.1.am vam/\ZZ N w w'
theorem zOo (w:World) (S:Nat->Prop):Z8 Zb w S Zo.ops (.slice none 0 0)/\Z0 w S Zo.bp (.slice none 0 0):=⟨Z8.nil_ 0 (QU _) none,Z8.nil_ 0 (QU _) none⟩
def XW (t:Z9) (p m:List Int) (ops:List ZB) (ap am:List Int):Za×Int:=if (Xn t ops).2=0 then (⟨ops,p,m,ap,am⟩,0) else (Zo,6)
theorem Vj (B:Nat) (arr:Array Value) (t:Z9) (p m ap am:List Int) (ops:List ZB) (A Ap Am Ao:Option Addr) (cap cp cm co:Nat) (vap vam:Value) (w:World) (ho:Z5 w B (.cells arr 86)) (hz:arr.size=25)
  (h0:arr[0]?=some (.int .i64 t.kind)) (h1:arr[1]?=some (.string t.text)) (h2:arr[2]?=some (.int .i64 t.cols)) (h3:arr[3]?=some (.slice A t.kids.length cap)) (h4:arr[4]?=some (.slice Ap p.length cp)) (h5:arr[5]?=some (.slice Am m.length cm)) (bK:arr[20]?=some (.slice Ao ops.length co)) (bJ:arr[23]?=some vap) (bI:arr[24]?=some vam)
  (hv:Z8 Z7 w (Lt w.heap.size) t.kids (.slice A t.kids.length cap)) (bA:Zt t) (bH:ZW t<=900000) (hp:Z0 w (Lt w.heap.size) p (.slice Ap p.length cp)) (hm:Z0 w (Lt w.heap.size) m (.slice Am m.length cm)) (bn:p.length<=1000000) (bC:m.length<=1000000)
  (ay:Z8 Zb w (fun k=>B<k/\k<w.heap.size) ops (.slice Ao ops.length co)) (bz:ops.length<=1000) (aO:Z0 w (fun k=>B<k/\k<w.heap.size) ap vap) (aP:Z0 w (fun k=>B<k/\k<w.heap.size) am vam) :
  Calls Tryz.prog 48 #[.pointer (some ⟨B,0,none⟩)] w (RecP B (fun k=>k=B) w (XW t p m ops ap am)):=by
 have aI:=ho.lt;obtain⟨W0,aR⟩:∃W0,w.alloc (.cells #[.slice none 0 0,.slice none 0 0,.slice none 0 0,.slice none 0 0,.slice none 0 0] 35)=W0:=⟨_,rfl⟩;have bg:W0.heap.size=w.heap.size+1:=by rw[<-aR];simp
 have aK:Below w.heap.size w W0:=by rw[<-aR];exact ZX _ _
 have bi:Z5 W0 w.heap.size (.cells #[.slice none 0 0,.slice none 0 0,.slice none 0 0,.slice none 0 0,.slice none 0 0] 35):=by rw[<-aR];exact Z5.at0 _ _
 have KB:Hid (∀W,Below W0.heap.size W0 W->Z5 W B (.cells arr 86)/\Z5 W w.heap.size (.cells #[.slice none 0 0,.slice none 0 0,.slice none 0 0,.slice none 0 0,.slice none 0 0] 35)/\Below w.heap.size w W):=fun W hW=>by
  have h9:=aK.trans (hW.mono aK.size);exact⟨ho.belowB h9 aI,bi.belowB hW (by omega),h9⟩
 have CA:Hid (∀W,Below w.heap.size w W->Calls Tryz.prog 88 #[.agg #[.int .i64 t.kind,.string t.text,.int .i64 t.cols,.slice A t.kids.length cap],.slice Ao ops.length co] W (zIx W (Xn t ops))):=fun W hW=>Vl t ops A Ao cap co W (hv.below hW hW.size) bA bH (ay.keep (fun q hq=>hW.cell hq.2) (fun k hk=>QV hk.2 hW.size)) bz
 have CC:Hid (∀W,Below w.heap.size w W->Calls Tryz.prog 58 #[.agg #[.slice Ap p.length cp,.slice Am m.length cm]] W _):=fun W hW=>zNb p m Ap Am cp cm W (hp.below hW hW.size) (hm.below hW hW.size) bn bC
 have HC:Hid (∀(W:World),Z5 W B (.cells arr 86)->W.cell? ⟨B,0,none⟩=some (.int .i64 t.kind)/\W.cell? ⟨B,1,none⟩=some (.string t.text)/\W.cell? ⟨B,2,none⟩=some (.int .i64 t.cols)/\W.cell? ⟨B,3,none⟩=some (.slice A t.kids.length cap)/\W.cell? ⟨B,4,none⟩=some (.slice Ap p.length cp)/\W.cell? ⟨B,5,none⟩=some (.slice Am m.length cm)/\W.cell? ⟨B,20,none⟩=some (.slice Ao ops.length co)/\W.cell? ⟨B,23,none⟩=some vap/\W.cell? ⟨B,24,none⟩=some vam):=fun W h =>
  ⟨(h.cell 0).trans h0,(h.cell 1).trans h1,(h.cell 2).trans h2,(h.cell 3).trans h3,(h.cell 4).trans h4,(h.cell 5).trans h5,(h.cell 20).trans bK,(h.cell 23).trans bJ,(h.cell 24).trans bI⟩
 have aT:arr[21]?=some arr[21]:=Array.getElem?_eq_getElem (by omega);have aS:arr[22]?=some arr[22]:=Array.getElem?_eq_getElem (by omega);generalize arr[21]=bU at aT;generalize arr[22]=bR at aS;obtain⟨o1,o2,aM⟩:=KB.out W0 (QQ _ _);obtain⟨b0,b1,b2,b3,b4,b5,av,au,ak⟩:=HC.out W0 o1;obtain⟨Aap,cap',rfl⟩:=aO.form;obtain⟨Aam,cam,rfl⟩:=aP.form;have bQ:=hid aK;have aU:=hid bg;have df:=hid aI;have aV:=hid ay;have dh:=hid aO;have dm:=hid aP;have ne1:¬B=w.heap.size:=Nat.ne_of_lt aI;have aY:¬w.heap.size=B:=fun e=>Nat.ne_of_lt aI e.symm
 have ne3:¬B=W0.heap.size:=by have:=aU.out;omega
 have ne4:¬W0.heap.size=B:=by have:=aU.out;omega
 have dw:=hid aT;have dn:=hid aS;have HR:Hid (XW t p m ops ap am=if (Xn t ops).2=0 then (⟨ops,p,m,ap,am⟩,0) else (Zo,6)):=rfl;generalize XW t p m ops ap am=bN at *;generalize Xn t ops=R at *;obtain⟨⟨rk,rt,rc,rks⟩,re⟩:=R;simp only[Z9.kind,Z9.text,Z9.cols,Z9.kids] at HR CA;clear ho hz h0 h1 h2 h3 h4 h5 bK bJ bI hv bA bH hp hm bn bC ay bz aO aP aK bg bi aI o1 o2 aM aT aS;go_enter Tryz.func48,Tryz.ntmps48
 go_wp2_with fail
 go_region_held3 (fun w'=>w'.cell? ⟨B,0,none⟩=some (.int .i64 t.kind)/\w'.cell? ⟨B,1,none⟩=some (.string t.text)/\w'.cell? ⟨B,2,none⟩=some (.int .i64 t.cols)/\w'.cell? ⟨B,3,none⟩=some (.slice A t.kids.length cap)/\w'.cell? ⟨B,20,none⟩=some (.slice Ao ops.length co)) (go_keep) (first
  |(go_at_call 88;refine(CA.out _ (XF bQ.out)).mono ?_;rintro e w3 ⟨v3,i3,rfl,ax,aB⟩;simp only[Z9.kind,Z9.text,Z9.cols,Z9.kids] at ax ⊢;obtain⟨A3,c3,rfl⟩:=ax.form;have aD:=hid (Xt aB);obtain⟨o1,o2,ai⟩:=KB.out w3 aD.out;have cB:=hid ai;obtain⟨b0,b1,b2,b3,b4,b5,av,au,ak⟩:=HC.out w3 o1;clear ax aB ai o1 o2)
  |(go_at_call 88;refine(CA.out _ (Zq (XF bQ.out) _)).mono ?_;rintro e w3 ⟨v3,i3,rfl,ax,aB⟩;simp only[Z9.kind,Z9.text,Z9.cols,Z9.kids] at ax ⊢;obtain⟨A3,c3,rfl⟩:=ax.form;have aD:=hid (Zx (Zq (XF (QQ _ W0)) _) aB);obtain⟨o1,o2,ai⟩:=KB.out w3 aD.out;have cB:=hid ai;obtain⟨b0,b1,b2,b3,b4,b5,av,au,ak⟩:=HC.out w3 o1;obtain⟨⟨q0,q1,q2,q3⟩,⟨f0,f1,f2,f3⟩⟩:=FB.below (b:=W0.heap.size) (FB.new W0.drew (.int .i64 0) (.string ⟨#[]⟩) (.int .i64 0) (.slice none 0 0) 24 rfl) aB (Nat.lt_of_lt_of_eq (Nat.lt_succ_self _) (World.size_alloc W0.drew _).symm);clear ax aB ai o1 o2)
  |fail)
 all_goals
  first
   |(generalize hX:w3.alloc _=X;have aJ:Hid (Below W0.heap.size W0 X):=by (rw[<-hX];exact aD.out.alloc aD.out.size _))
   |(generalize hX:World.setCell _ _ _=X;have aJ:Hid (Below W0.heap.size W0 X):=by (rw[<-hX];exact(((aD.out.setCell (p:=⟨W0.heap.size,0,none⟩) (QT _) _).setCell (p:=⟨W0.heap.size,1,none⟩) (QT _) _).setCell (p:=⟨W0.heap.size,2,none⟩) (QT _) _).setCell (p:=⟨W0.heap.size,3,none⟩) (QT _) _))
  clear hX b0 b1 b2 b3 b4 b5 av au ak
  try clear q0 q1 q2 q3 f0 f1 f2 f3
  obtain⟨o1,o2,ai⟩:=KB.out X aJ.out;obtain⟨b0,b1,b2,b3,b4,b5,av,au,ak⟩:=HC.out X o1;have bP:=hid ai;have aC:=hid o2;clear o1 o2 ai;by_cases aA:re=0;rotate_left
  ·have i9:(re==0)=false:=by simpa using aA
   have i9':(re != 0)=true:=by simpa using aA
   have az:Hid (bN=(Zo,6)):=HR.out.trans (if_neg aA);clear aA
   go_wp2_with (first
    |(refine wpList_store_row rfl 35 (.tmp 2) (.tmp 24) rfl w.heap.size _ rfl rfl 35 _ aC.out (by kernel_rfl) (by simp) (by simp[Value.oneCell']) ?_)
    |fail)
   have aa:=aC.out.row #[.slice none 0 0,.slice none 0 0,.slice none 0 0,.slice none 0 0,.slice none 0 0];have r0:=aa.cell 0;have r1:=aa.cell 1;have r2:=aa.cell 2;have r3:=aa.cell 3;have r4:=aa.cell 4;simp only[List.getElem?_toArray,List.getElem?_cons_zero,List.getElem?_cons_succ] at r0 r1 r2 r3 r4;refine bodyPost_ret (v:=.tuple #[.agg #[.slice none 0 0,.slice none 0 0,.slice none 0 0,.slice none 0 0,.slice none 0 0],.int .i64 6]) (by simp[results,Tryz.results48,go_sem,r0,r1,r2,r3,r4]) rfl ?_;rw[az.out];have aF:=zOo (X.setRow w.heap.size #[.slice none 0 0,.slice none 0 0,.slice none 0 0,.slice none 0 0,.slice none 0 0]) (fun k=>B<k/\k<(X.setRow w.heap.size #[.slice none 0 0,.slice none 0 0,.slice none 0 0,.slice none 0 0,.slice none 0 0]).heap.size);exact⟨_,_,_,_,_,rfl,aF.1,aF.2,aF.2,aF.2,aF.2,ZZ.of_below (YV bP.out (QT _) _) _⟩
  have az:Hid (bN=(⟨ops,p,m,ap,am⟩,0)):=HR.out.trans (if_pos aA);subst aA;clear aC
  go_wp2_with fail
  refine(CC.out _ bP.out).mono ?_;rintro e w5 ⟨ag,ae,ah,af,rfl,bu,bD,aN⟩;have aX:=hid (aJ.out.trans (aN.mono aJ.out.size));have cK:=hid bu;have cO:=hid bD;have cu:=hid aN.size;clear b0 b1 b2 b3 b4 b5 av au ak bu bD aN;obtain⟨o1,o2,ai⟩:=KB.out w5 aX.out;obtain⟨b0,b1,b2,b3,b4,b5,av,au,ak⟩:=HC.out w5 o1;have bM:w5.cell? ⟨B,21,none⟩=some bU:=(o1.cell 21).trans dw.out;have bL:w5.cell? ⟨B,22,none⟩=some bR:=(o1.cell 22).trans dn.out;have bY:=o1.free 21;have bW:=o1.free 22;have aL:=hid ai;have hd:∀(i j:Nat),i≠j->(⟨B,i,none⟩:Addr)≠⟨B,j,none⟩:=fun i j h e=>h (by injection e)
  have e20:((w5.setCell ⟨B,21,none⟩ (.slice ag p.length ae)).setCell ⟨B,22,none⟩ (.slice ah m.length af)).cell? ⟨B,20,none⟩=some (.slice Ao ops.length co):=(World.cell?_setCell_other _ _ _ _ (hd 22 20 (by decide))).trans ((World.cell?_setCell_other _ _ _ _ (hd 21 20 (by decide))).trans av);have e21:((w5.setCell ⟨B,21,none⟩ (.slice ag p.length ae)).setCell ⟨B,22,none⟩ (.slice ah m.length af)).cell? ⟨B,21,none⟩=some (.slice ag p.length ae):=(World.cell?_setCell_other _ _ _ _ (hd 22 21 (by decide))).trans (World.cell?_setCell_same _ _ _ bM);have e22:((w5.setCell ⟨B,21,none⟩ (.slice ag p.length ae)).setCell ⟨B,22,none⟩ (.slice ah m.length af)).cell? ⟨B,22,none⟩=some (.slice ah m.length af):=World.cell?_setCell_same _ _ _ ((World.cell?_setCell_other _ _ _ _ (hd 21 22 (by decide))).trans bL);have e23:((w5.setCell ⟨B,21,none⟩ (.slice ag p.length ae)).setCell ⟨B,22,none⟩ (.slice ah m.length af)).cell? ⟨B,23,none⟩=some (.slice Aap ap.length cap'):=(World.cell?_setCell_other _ _ _ _ (hd 22 23 (by decide))).trans ((World.cell?_setCell_other _ _ _ _ (hd 21 23 (by decide))).trans au);have e24:((w5.setCell ⟨B,21,none⟩ (.slice ag p.length ae)).setCell ⟨B,22,none⟩ (.slice ah m.length af)).cell? ⟨B,24,none⟩=some (.slice Aam am.length cam):=(World.cell?_setCell_other _ _ _ _ (hd 22 24 (by decide))).trans ((World.cell?_setCell_other _ _ _ _ (hd 21 24 (by decide))).trans ak);have bB:=(o2.far (g':=B) (i:=21) (.slice ag p.length ae) aY).far (g':=B) (i:=22) (.slice ah m.length af) aY;have aH:∀q:Addr,q.block≠B->((w5.setCell ⟨B,21,none⟩ (.slice ag p.length ae)).setCell ⟨B,22,none⟩ (.slice ah m.length af)).cell? q=w5.cell? q:=fun q hq=>by
   rw[World.cell?_setCell_other _ _ _ _ (by intro e;exact hq (by rw[<-e])),World.cell?_setCell_other _ _ _ _ (by intro e;exact hq (by rw[<-e]))]
  have aZ:((w5.setCell ⟨B,21,none⟩ (.slice ag p.length ae)).setCell ⟨B,22,none⟩ (.slice ah m.length af)).heap.size=w5.heap.size:=by simp[World.setCell]
  have bG:=((ZZ.of_below ai (fun _=>False)).trans (ZZ.set w5 ⟨B,21,none⟩ (.slice ag p.length ae))).trans (ZZ.set _ ⟨B,22,none⟩ (.slice ah m.length af));have aC:=hid bB;have aW:=hid aH;have bZ:=hid aZ;have cZ:=hid bG;clear o1 o2 ai hd bB aH aZ bG
  go_upto_region 5 with fail
  clear b0 b1 b2 b3 b4 b5 av bM bL au ak bY bW;generalize ((w5.setCell ⟨B,21,none⟩ (.slice ag p.length ae)).setCell ⟨B,22,none⟩ (.slice ah m.length af))=W6 at *
  go_wp2_with (first
   |(refine wpList_store_row rfl 35 (.tmp 2) (.tmp 38) rfl w.heap.size _ rfl rfl 35 _ aC.out (by kernel_rfl) (by simp) (by simp[Value.oneCell']) ?_)
   |fail)
  have aa:=aC.out.row #[.slice Ao ops.length co,.slice ag p.length ae,.slice ah m.length af,.slice Aap ap.length cap',.slice Aam am.length cam];have r0:=aa.cell 0;have r1:=aa.cell 1;have r2:=aa.cell 2;have r3:=aa.cell 3;have r4:=aa.cell 4;simp only[List.getElem?_toArray,List.getElem?_cons_zero,List.getElem?_cons_succ] at r0 r1 r2 r3 r4;refine bodyPost_ret (v:=.tuple #[.agg #[.slice Ao ops.length co,.slice ag p.length ae,.slice ah m.length af,.slice Aap ap.length cap',.slice Aam am.length cam],.int .i64 0]) (by simp[results,Tryz.results48,go_sem,r0,r1,r2,r3,r4]) rfl ?_;rw[az.out];have aj:∀q:Addr,q.block≠B->q.block≠w.heap.size->(W6.setRow w.heap.size #[.slice Ao ops.length co,.slice ag p.length ae,.slice ah m.length af,.slice Aap ap.length cap',.slice Aam am.length cam]).cell? q=w5.cell? q:=fun q h1 h2=>(World.cell?_of_block (setRow_other _ _ _ _ h2)).trans (aW.out q h1)
  have aG:(W6.setRow w.heap.size #[.slice Ao ops.length co,.slice ag p.length ae,.slice ah m.length af,.slice Aap ap.length cap',.slice Aam am.length cam]).heap.size=w5.heap.size:=by rw[size_setRow,bZ.out]
  have hX0:=aJ.out.size;have hw0:=aU.out;have h5:=cu.out;have hBl:=df.out;have aQ:=aL.out.size;exact⟨_,_,_,_,_,rfl,aV.out.keep (fun q hq=>(aj q (Nat.ne_of_gt hq.1) (Nat.ne_of_lt hq.2)).trans (aL.out.cell hq.2)) (fun k hk=>⟨hk.1,by rw[aG];exact QV hk.2 aQ⟩),
   cK.out.keep (fun q hq=>aj q (by have:=hq.1;omega) (by have:=hq.1;omega)) (fun k hk=>⟨by have:=hk.1;omega,by rw[aG];exact hk.2⟩),cO.out.keep (fun q hq=>aj q (by have:=hq.1;omega) (by have:=hq.1;omega)) (fun k hk=>⟨by have:=hk.1;omega,by rw[aG];exact hk.2⟩),
   dh.out.keep (fun q hq=>(aj q (Nat.ne_of_gt hq.1) (Nat.ne_of_lt hq.2)).trans (aL.out.cell hq.2)) (fun k hk=>⟨hk.1,by rw[aG];exact QV hk.2 aQ⟩),dm.out.keep (fun q hq=>(aj q (Nat.ne_of_gt hq.1) (Nat.ne_of_lt hq.2)).trans (aL.out.cell hq.2)) (fun k hk=>⟨hk.1,by rw[aG];exact QV hk.2 aQ⟩),
   (cZ.out.trans (ZZ.setRow W6 w.heap.size _)).mono (fun k hk h=>by
    rcases h with ((h|h)|h)|h
    ·exact h.elim
    ·exact h
    ·exact h
    omega)⟩
theorem zJu {ts:List Z9} {k:Nat} (h:k<ts.length) (but:Int):XV (ts.drop k) (k:Int) but=((decide ((k:Int)≠but)&&decide (0<ts[k].kids.length)) || XV (ts.drop (k+1)) ((k+1:Nat):Int) but):=by
 rw[List.drop_eq_getElem_cons h,XV];rfl
theorem zIm (t:Z9) (A:Option Addr) (cap:Nat) (but:Int) (w:World) (hv:Z8 Z7 w (Lt w.heap.size) t.kids (.slice A t.kids.length cap)) :
  Calls Tryz.prog 91 #[.agg #[.int .i64 t.kind,.string t.text,.int .i64 t.cols,.slice A t.kids.length cap],.int .i64 but] w (Xg w (XV t.kids 0 but)):=by
 obtain⟨tk,tx,tc,ts⟩:=t;simp only[Z9.kind,Z9.text,Z9.cols,Z9.kids] at *;obtain⟨_,_,rs,hq,aj,ag,ae,af⟩:=hv;cases hq;unfold maxLen at ag;have ai:ts.length<=9223372036854775807:=by omega
 have H:Hid (Zl w (Lt w.heap.size) A rs/\ZK Z7 w (Lt w.heap.size) ts rs):=⟨ae,af⟩;clear ae af;have av:=hid (ZX w (.cells #[.int .i64 tk,.string tx,.int .i64 tc,.slice A ts.length cap] 24));go_enter Tryz.func91,Tryz.ntmps91
 go_wp2_with fail
 go_loopw [10] (fun i wr=>Below w.heap.size w wr/\∃k:Nat,k<=ts.length/\i=.int .i64 k/\XV (ts.drop k) (k:Int) but=XV ts 0 but) (fun i _=>ts.length-(intOf i).toNat)
 case atStart=>exact⟨av.out,0,QU _,rfl,rfl⟩
 obtain⟨hb,k,hk,rfl,aa⟩:=hrel;have HR:=hid aa;have HB:=hid hb;clear aa;by_cases ah:k<ts.length
 ·obtain⟨g,o,B,bc,bs,rfl,hg,c0,c1,c2,c3,_,_,_,au,ak,ae,af⟩:=Y5 (H.out.1.keep (Zy.of_below hb (QT _)) (Lt.mono hb.size)) (H.out.2.keep (Zy.of_below hb (QT _)) (Lt.mono hb.size)) ah;have HT:=hid (zJu ah but);have i0:(k:Int)<(ts.length:Int):=by omega
  have HX:=hid (hb.alloc hb.size (Obj.cells #[.int .i64 ts[k].kind,.string ts[k].text,.int .i64 ts[k].cols,.slice B ts[k].kids.length bc] 24));clear hb ae af au ak;generalize ts[k]=x at *;obtain⟨xk,xt,xc,xs⟩:=x;simp only[Z9.kind,Z9.text,Z9.cols,Z9.kids] at *;by_cases h1:(k:Int)=but
  ·have i1:((k:Int) != but)=false:=by simp[h1]
   have HF:Hid (XV (ts.drop (k+1)) ((k+1:Nat):Int) but=XV ts 0 but):=by show _=_;rw[<-HR.out,HT.out];simp[h1]
   clear h1
   go_wp2_with fail
   go_roundw
   case rel=>exact⟨HX.out,k+1,by omega,by go_num,HF.out⟩
   case measure=>simp[intOf];omega
  have i1:((k:Int) != but)=true:=by simp[h1]
  rcases Nat.eq_zero_or_pos xs.length with h2|h2
  ·have HF:Hid (XV (ts.drop (k+1)) ((k+1:Nat):Int) but=XV ts 0 but):=by show _=_;rw[<-HR.out,HT.out];simp[h2]
   rw[h2] at c3 HX;clear h1 h2
   go_wp2_with fail
   go_roundw
   case rel=>exact⟨HX.out,k+1,by omega,by go_num,HF.out⟩
   case measure=>simp[intOf];omega
  have HF:Hid (XV ts 0 but=true):=by show _=_;rw[<-HR.out,HT.out];simp[h1,h2]
  have i2:(0:Int)<(xs.length:Int):=by omega
  clear h1
  go_wp2_with fail
  go_ret;exact⟨by rw[HF.out];rfl,HX.out⟩
 have HF:Hid (XV ts 0 but=false):=by show _=_;rw[<-HR.out,List.drop_of_length_le (by omega),XV]
 clear hb
 go_wp2_with fail
 go_ret;exact⟨by rw[HF.out];rfl,HB.out⟩
theorem zK4 (x0 x1 x2 x3 x4 x5 x6 x9 av au ak aj ai ah ag af ae aa:Value) (a b:Int) (w:World):Calls Tryz.prog 43 #[.agg #[x0,x1,x2,x3,x4,x5,x6,.int .i64 a,.int .i64 b,x9,av,au,ak,aj,ai,ah,ag,af,ae,aa]] w (Xg w (decide (a<b))):=by
 have HB:=hid (ZX w (.cells #[x0,x1,x2,x3,x4,x5,x6,.int .i64 a,.int .i64 b,x9,av,au,ak,aj,ai,ah,ag,af,ae,aa] 69));go_enter Tryz.func43,Tryz.ntmps43
 go_wp2_with fail
 go_ret;exact⟨rfl,HB.out⟩
def Q3 (S:Nat->Prop) (w:World) (op:ZB) (e:Ending) (w':World):Prop:=∃Ar cr An cn,e=.returned (.agg (Zu op (.slice Ar op.row.length cr) (.slice An op.nodes.length cn)))/\Z0 w' (fun k=>k<w'.heap.size/\(S k\/w.heap.size<=k)) op.row (.slice Ar op.row.length cr)/\Z8 Z7 w' (fun k=>k<w'.heap.size/\(S k\/w.heap.size<=k)) op.nodes (.slice An op.nodes.length cn)/\Below w.heap.size w w'
theorem zVi (S:Nat->Prop) (t:Z9) (r:List Int) (a b:Int) (A Ar:Option Addr) (cap cr:Nat) (x4 x5 x9 aA az ay ax av au ak aj ai ah:Value) (w:World) (hv:Z8 Z7 w (Lt w.heap.size) t.kids (.slice A t.kids.length cap)) (aG:Zt t) (aI:ZW t<=900000) (hr:Z0 w (fun k=>k<w.heap.size/\S k) r (.slice Ar r.length cr)) (ha:Z4 a) (hb:Z4 b) :
  Calls Tryz.prog 46 #[.agg #[.int .i64 t.kind,.string t.text,.int .i64 t.cols,.slice A t.kids.length cap,x4,x5,.slice Ar r.length cr,.int .i64 a,.int .i64 b,x9,aA,az,ay,ax,av,au,ak,aj,ai,ah]] w (Q3 S w (Yn r a (Yp t r a b).1)):=by
 obtain⟨W0,ag⟩:∃W0,(w.alloc (.cells #[.int .i64 t.kind,.string t.text,.int .i64 t.cols,.slice A t.kids.length cap,x4,x5,.slice Ar r.length cr,.int .i64 a,.int .i64 b,x9,aA,az,ay,ax,av,au,ak,aj,ai,ah] 69)).alloc (.cells #[.int .i64 0,.slice none 0 0,.int .i64 0,.int .i64 0,.slice none 0 0,.int .i64 0,.string ⟨#[]⟩,.string ⟨#[]⟩] 49)=W0:=⟨_,rfl⟩;have aF:W0.heap.size=w.heap.size+1+1:=by rw[<-ag];simp
 have ae:Below w.heap.size w W0:=by rw[<-ag];exact((QQ _ _).alloc (QT _) _).alloc (by simp) _
 have aa:Z5 W0 w.heap.size (.cells #[.int .i64 t.kind,.string t.text,.int .i64 t.cols,.slice A t.kids.length cap,x4,x5,.slice Ar r.length cr,.int .i64 a,.int .i64 b,x9,aA,az,ay,ax,av,au,ak,aj,ai,ah] 69):=by rw[<-ag];exact(Z5.at0 _ _).al _
 have aH:Z5 W0 (w.heap.size+1) (.cells #[.int .i64 0,.slice none 0 0,.int .i64 0,.int .i64 0,.slice none 0 0,.int .i64 0,.string ⟨#[]⟩,.string ⟨#[]⟩] 49):=by rw[<-ag];exact Z5.at1 _ _ _
 have CI:=hid (zOu t r a b A Ar cap cr W0 (hv.below ae ae.size) aG aI (hr.keep (S':=Lt W0.heap.size) (fun q hq=>ae.cell hq.1) (fun k hk=>QV hk.1 ae.size)) ha hb);have aN:=hid hr;have aD:=hid ae;have aM:=hid aF;have aL:=hid aa;have aK:=hid aH;have m0:=aa.cell 0;have m1:=aa.cell 1;have m2:=aa.cell 2;have m3:=aa.cell 3;have m6:=aa.cell 6;have m7:=aa.cell 7;have m8:=aa.cell 8;simp only[List.getElem?_toArray,List.getElem?_cons_zero,List.getElem?_cons_succ] at m0 m1 m2 m3 m6 m7 m8;generalize Yp t r a b=IR at *;obtain⟨ir,ie⟩:=IR;simp only[Yn] at *;clear hv aG aI hr ha hb ae aF aa aH;go_enter Tryz.func46,Tryz.ntmps46
 go_wp2_with fail
 refine CI.out.mono ?_;rintro e w1 ⟨v1,rfl,aB,af⟩;obtain⟨A1,c1,rfl⟩:=aB.form;clear m0 m1 m2 m3 m6 m7 m8;have q1:=aL.out.below af;have q2:=aK.out.below af;have m6:=q1.cell 6;have m7:=q1.cell 7;simp only[List.getElem?_toArray,List.getElem?_cons_zero,List.getElem?_cons_succ] at m6 m7;have aO:=hid aB;have aP:=hid (aD.out.trans (af.mono aD.out.size));have aJ:=hid q2;clear aB af q1 q2 aL aK
 go_wp2_with (first
  |(refine wpList_store_row rfl 49 (.tmp 2) (.tmp 20) rfl (w.heap.size+1) _ rfl rfl 49 _ aJ.out (by kernel_rfl) (by simp) (by simp[Value.oneCell']) ?_)
  |fail)
 refine bodyPost_ret (v:=.agg #[.int .i64 2,.slice Ar r.length cr,.int .i64 a,.int .i64 0,.slice A1 ir.length c1,.int .i64 0,.string ⟨#[]⟩,.string ⟨#[]⟩]) (results_cell_row Tryz.results46 _ _ (w.heap.size+1) 49 _ (0,0) _ rfl (setRow_heap _ _ _ _ _ _ aJ.out) Tryz.underlying49 rfl (by kernel_rfl)) rfl ?_;have hz:=aM.out;have aC:=aP.out;exact⟨_,_,A1,c1,rfl,aN.out.keep (fun q hq=>(World.cell?_of_block (setRow_other _ _ _ _ (by have:q.block<w.heap.size:=hq.1;omega))).trans (aC.cell hq.1)) (fun k hk=>⟨by rw[size_setRow];exact QV hk.1 aC.size,.inl hk.2⟩),
  aO.out.keep (fun q hq=>World.cell?_of_block (setRow_other _ _ _ _ (by have:=hq.1;omega))) (fun k hk=>⟨by rw[size_setRow];exact hk.2,.inr (by have:=hk.1;have:=aD.out.size;omega)⟩),YV aC (by omega) _⟩
