/- T -/
import Derived.Test.YthpngeboknmllaaGreatQa65a
set_option linter.unusedVariables false
set_option linter.unusedSimpArgs false
set_option maxHeartbeats 8000000
set_option maxRecDepth 100000
namespace Go.Proofs.YthpngeboknmllaaGreat
open Go.RowKit
theorem TU (l:List Z9) (row:List Int) (at_ n slot:Int) (nodes:List Z9) (old text:ByteArray) (A Ar An:Option Addr) (cap lr cr cn:Nat) (w:World) (S:Nat->Prop) (hS:∀q,S q->q<w.heap.size) (hl:Z8 Z7 w S l (.slice A l.length cap)) (hn:Z8 Z7 w S nodes (.slice An nodes.length cn)) (hat:Z4 at_) (hcl:ZT l<=1000000) (hcn:ZT nodes<=1000000) (bn:text.size<=maxLen) :
  Calls Tryz.prog 65 #[.slice A l.length cap,.agg (Zu ⟨5,row,at_,n,nodes,slot,old,text⟩ (.slice Ar lr cr) (.slice An nodes.length cn))] w (XB S w (ZC l ⟨5,row,at_,n,nodes,slot,old,text⟩)):=by
 have bu:l.length<=1000000:=by have:=WG l;omega
 have hln:nodes.length<=1000000:=by have:=WG nodes;omega
 have ay:YM ⟨5,row,at_,n,nodes,slot,old,text⟩=1:=by simp[YM]
 have ax:=hid hS;generalize aY:w.alloc (.cells (Zu ⟨5,row,at_,n,nodes,slot,old,text⟩ (.slice Ar lr cr) (.slice An nodes.length cn)) 49)=W0;have aG:W0.heap.size=w.heap.size+1:=by rw[<-aY];simp
 have KB:Hid (∀W,Below W0.heap.size W0 W->Yv W w.heap.size ⟨5,row,at_,n,nodes,slot,old,text⟩ (.slice Ar lr cr) (.slice An nodes.length cn)/\Below w.heap.size w W):=fun W hW=>by
  have h0:Yv W0 w.heap.size ⟨5,row,at_,n,nodes,slot,old,text⟩ (.slice Ar lr cr) (.slice An nodes.length cn):=by rw[<-aY];exact Yv.new _ _ _ _ _
  have aM:Below w.heap.size w W0:=by rw[<-aY];exact ZX _ _
  exact⟨h0.below hW (by omega),aM.trans (hW.mono aM.size)⟩
 obtain⟨⟨m0,m1,m2,m3,m4,m5,m6,m7⟩,aM⟩:=KB.out W0 (QQ _ _);have av:=hid aM;have HZ0:=hid aG;have HL:=hid hl;have HN:=hid hn;simp only[Zu] at *;clear hS hl hn aM aG;rcases Int.lt_or_le at_ 0 with r0|r0
 ·have i0:decide (at_<0)=true:=by simpa using r0
  have hr:ZC l ⟨5,row,at_,n,nodes,slot,old,text⟩=([],2):=if_pos (by rw[ay];simp only;omega);rw[hr];clear hr ay;go_enter Tryz.func65,Tryz.ntmps65
  go_wp2_with fail
  refine bodyPost_ret (v:=.tuple #[.slice none 0 0,.int .i64 2]) (by simp[results,Tryz.results65,go_sem]) rfl ?_;exact⟨_,rfl,Z8.nil_ 0 (QU _) none,av.out⟩
 have i0:decide (at_<0)=false:=by simpa using r0
 rcases Int.lt_or_le (l.length:Int) at_ with r1|r1
 ·have i1:decide ((l.length:Int)<at_)=true:=by simpa using r1
  have hr:ZC l ⟨5,row,at_,n,nodes,slot,old,text⟩=([],2):=if_pos (by rw[ay];simp only;omega);rw[hr];clear hr ay;go_enter Tryz.func65,Tryz.ntmps65
  go_wp2_with fail
  refine bodyPost_ret (v:=.tuple #[.slice none 0 0,.int .i64 2]) (by simp[results,Tryz.results65,go_sem]) rfl ?_;exact⟨_,rfl,Z8.nil_ 0 (QU _) none,av.out⟩
 have i1:decide ((l.length:Int)<at_)=false:=by simpa using r1
 have w1:IntKind.i64.wrap ((l.length:Int)-at_)=(l.length:Int)-at_:=IntWalk.i64_in _ (by omega);rcases Int.lt_or_le ((l.length:Int)-at_) (1) with r2|r2
 ·have i2:decide ((l.length:Int)-at_<1)=true:=by simpa using r2
  have hr:ZC l ⟨5,row,at_,n,nodes,slot,old,text⟩=([],2):=if_pos (by rw[ay];simp only;omega);rw[hr];clear hr ay;go_enter Tryz.func65,Tryz.ntmps65
  go_wp2_with fail
  refine bodyPost_ret (v:=.tuple #[.slice none 0 0,.int .i64 2]) (by simp[results,Tryz.results65,go_sem]) rfl ?_;exact⟨_,rfl,Z8.nil_ 0 (QU _) none,av.out⟩
 have i2:decide ((l.length:Int)-at_<1)=false:=by simpa using r2
 have w2:IntKind.i64.wrap (at_+1)=at_+1:=IntWalk.i64_in _ (by omega);have w3:IntKind.i64.wrap at_=at_:=IntWalk.i64_in _ (by omega);have aW:¬(at_<0\/(l.length:Int)<at_\/(l.length:Int)-at_<YM ⟨5,row,at_,n,nodes,slot,old,text⟩):=by rw[ay];omega
 obtain⟨a,ha⟩:∃a:Nat,at_=a:=⟨at_.toNat,by omega⟩;obtain⟨b,hb⟩:∃b:Nat,at_+1=b:=⟨(at_+1).toNat,by omega⟩;have bg:a<l.length:=by omega
 obtain⟨_,_,rl0,hq,_,_,aH,aK⟩:=id HL.out;cases hq;obtain⟨g,o,A1,c1,bi,rfl,hg,aU,aT,aS,aR,e1,e2,e3,e4,e5,aI,aL⟩:=Y5 aH aK bg;have aZ:Z8 Z7 w S l[a].kids (.slice A1 l[a].kids.length c1):=⟨_,_,bi,rfl,e4,e5,aI,aL⟩;have aQ:g<w.heap.size:=ax.out _ hg;have KI:Hid (∀W,Below w.heap.size w W->W.cell? ⟨g,o+a*4,none⟩=some (.int .i64 l[a].kind)/\W.cell? ⟨g,o+a*4+1,none⟩=some (.string l[a].text)/\W.cell? ⟨g,o+a*4+2,none⟩=some (.int .i64 l[a].cols)/\W.cell? ⟨g,o+a*4+3,none⟩=some (.slice A1 l[a].kids.length c1)):=fun W hW =>
  ⟨(hW.cell (p:=⟨g,_,none⟩) aQ).trans aU,(hW.cell (p:=⟨g,_,none⟩) aQ).trans aT,(hW.cell (p:=⟨g,_,none⟩) aQ).trans aS,(hW.cell (p:=⟨g,_,none⟩) aQ).trans aR⟩
 have aX:l.getD a ZJ=l[a]:=by rw[List.getD_eq_getElem?_getD,List.getElem?_eq_getElem bg];rfl
 subst ha;have aV:ZC l ⟨5,row,(a:Int),n,nodes,slot,old,text⟩=(if WB l[a].kind=true/\(l[a].text.toList==old.toList)=true then (Zk l a b [.mk l[a].kind text l[a].cols l[a].kids],0) else ([],7)):=by
  unfold ZC;rw[if_neg aW,if_neg (by simp),if_neg (by simp),if_neg (by simp),if_neg (by simp)];simp only[hb,Int.toNat_natCast,aX]
 have P1:¬(WB l[a].kind=true/\(l[a].text.toList==old.toList)=true)->ZC l ⟨5,row,(a:Int),n,nodes,slot,old,text⟩=([],7):=fun h=>aV.trans (if_neg h)
 have P2:(WB l[a].kind=true/\(l[a].text.toList==old.toList)=true)->ZC l ⟨5,row,(a:Int),n,nodes,slot,old,text⟩=(Zk l a b [.mk l[a].kind text l[a].cols l[a].kids],0):=fun h=>aV.trans (if_pos h)
 clear aV;generalize ZC l ⟨5,row,(a:Int),n,nodes,slot,old,text⟩=res at *;have j0:(0:Int)<=(a:Int):=by omega
 have j1:(a:Int)<(l.length:Int):=by omega
 obtain⟨x0,x1,x2,x3⟩:=KI.out W0 av.out;have KW:Hid (∀k x c v W,Below (W0.alloc (Obj.cells #[.int .i64 k,.string x,.int .i64 c,v] 24)).heap.size (W0.alloc (Obj.cells #[.int .i64 k,.string x,.int .i64 c,v] 24)) W->ZL W W0.heap.size k x c v/\YJ W W0.heap.size/\Below W0.heap.size W0 W):=fun k x c v W hW =>
  ⟨(ZL.new W0 k x c v _).below hW (by simp),(YJ.new W0 _ _).below hW (by simp),(ZX _ _).trans (hW.mono (by simp))⟩
 have aJ:Zt (.mk l[a].kind text l[a].cols l[a].kids):=⟨e1,e2,bn⟩;have CS:Hid (∀W b0 v,Below w.heap.size w W->w.heap.size<=b0->Z8 Z7 W (NS S b0 W) [.mk l[a].kind text l[a].cols l[a].kids] v->∀B',v=.slice B' 1 1->Calls Tryz.prog 104 #[.slice (some ⟨g,o,none⟩) l.length cap,.int .i64 (a:Int),.int .i64 ((a:Int)+1),v] W (XN (NS S b0 W) W (Zk l a b [.mk l[a].kind text l[a].cols l[a].kids]))):=by
  intro W b0 v hW hb0 hr B' hv;subst hv;exact RG l [.mk l[a].kind text l[a].cols l[a].kids] (a:Int) ((a:Int)+1) a b _ B' cap 1 W (NS S b0 W) (fun q hq=>by
   have hz:=hW.size;rcases hq with hq|hq
   ·have:=ax.out q hq;omega
   exact hq.2) rfl (by omega) (by omega) (by omega) bu (by simp) ((YH HL.out ax.out hW).keep (fun _ _=>rfl) (fun q hq=>.inl hq)) hr
 have aO:=hid aZ;generalize hbt:(l[a].text.toList==old.toList)=bT at *;generalize l[a]=item at *;obtain⟨ik,ix,ic,is⟩:=item;simp only[Z9.kind,Z9.text,Z9.cols,Z9.kids] at *;have aN:=hid aJ;by_cases aF:WB ik=true;rotate_left
 ·rw[P1 (fun h=>aF h.1)];clear P1 P2;have hk:ik≠2/\ik≠3/\ik≠4/\ik≠10/\ik≠11:=by
   unfold WB at aF;simp only[decide_eq_true_eq] at aF;omega
  obtain⟨k1,k2,k3,k4,k5⟩:=hk;have i2':(ik==2)=false:=by simpa using k1
  have i3':(ik==3)=false:=by simpa using k2
  have i4':(ik==4)=false:=by simpa using k3
  have i5':(ik==10)=false:=by simpa using k4
  have i6':(ik==11)=false:=by simpa using k5
  clear aW hb r0 r1 r2 ay aH aK aI aL aU aT aS aR e1 e2 e3 e4 e5 aZ aX aF k1 k2 k3 k4 k5 aJ;go_enter Tryz.func65,Tryz.ntmps65
  go_upto_region 22 with fail
  obtain⟨X,hX⟩:∃X,W0.alloc (Obj.cells #[.int .i64 ik,.string ix,.int .i64 ic,.slice A1 is.length c1] 24)=X:=⟨_,rfl⟩;rw[hX];obtain⟨⟨y0,y1,y2,y3⟩,_,ae⟩:=KW.out ik ix ic (.slice A1 is.length c1) X (by rw[hX];exact QQ _ _);obtain⟨⟨m0,m1,m2,m3,m4,m5,m6,m7⟩,aa⟩:=KB.out X ae;have ai:=hid aa;clear ae aa hX x0 x1 x2 x3
  go_wp2_with fail
  refine bodyPost_ret (v:=.tuple #[.slice none 0 0,.int .i64 7]) (by simp[results,Tryz.results65,go_sem]) rfl ?_;exact⟨_,rfl,Z8.nil_ 0 (QU _) none,ai.out⟩
 have hk:ik=2\/ik=3\/ik=4\/ik=10\/ik=11:=by
  unfold WB at aF;simpa only [decide_eq_true_eq] using aF
 have P3:res=if bT=true then (Zk l a b [.mk ik text ic is],0) else ([],7):=by
  cases bT
  ·exact P1 (by simp)
  exact P2 ⟨aF,rfl⟩
 rw[P3];clear P1 P2 P3;generalize Zk l a b [.mk ik text ic is]=L at *;clear aW hb r0 r1 r2 ay aH aK aI aL aU aT aS aR e1 e2 e3 e4 e5 aZ aX aF aJ;rcases hk with rfl|rfl|rfl|rfl|rfl
 ·cases bT
  ·go_enter Tryz.func65,Tryz.ntmps65
   go_upto_region 22 with fail
   obtain⟨X,hX⟩:∃X,W0.alloc (Obj.cells #[.int .i64 2,.string ix,.int .i64 ic,.slice A1 is.length c1] 24)=X:=⟨_,rfl⟩;rw[hX];obtain⟨hy,⟨f0,f1,f2,f3⟩,ae⟩:=KW.out 2 ix ic (.slice A1 is.length c1) X (by rw[hX];exact QQ _ _);have HY:=hid hy;obtain⟨y0,y1,y2,y3⟩:=hy;obtain⟨⟨m0,m1,m2,m3,m4,m5,m6,m7⟩,aa⟩:=KB.out X ae;have ai:=hid aa;have au:=hid ae;have az:Hid (W0.heap.size<X.heap.size):=by show _<_;rw[<-hX];simp
   clear ae aa hX x0 x1 x2 x3
   go_wp2_with fail
   refine bodyPost_ret (v:=.tuple #[.slice none 0 0,.int .i64 7]) (by simp[results,Tryz.results65,go_sem]) rfl ?_;exact⟨_,rfl,Z8.nil_ 0 (QU _) none,ai.out⟩
  go_enter Tryz.func65,Tryz.ntmps65
  go_upto_region 22 with fail
  obtain⟨X,hX⟩:∃X,W0.alloc (Obj.cells #[.int .i64 2,.string ix,.int .i64 ic,.slice A1 is.length c1] 24)=X:=⟨_,rfl⟩;rw[hX];obtain⟨hy,⟨f0,f1,f2,f3⟩,ae⟩:=KW.out 2 ix ic (.slice A1 is.length c1) X (by rw[hX];exact QQ _ _);have HY:=hid hy;obtain⟨y0,y1,y2,y3⟩:=hy;obtain⟨⟨m0,m1,m2,m3,m4,m5,m6,m7⟩,aa⟩:=KB.out X ae;have ai:=hid aa;have au:=hid ae;have az:Hid (W0.heap.size<X.heap.size):=by show _<_;rw[<-hX];simp
  clear ae aa hX x0 x1 x2 x3
  go_upto_region 34 with fail
  obtain⟨Y,hY⟩:∃Y,X.setCell ⟨W0.heap.size,1,none⟩ (.string text)=Y:=⟨_,rfl⟩;rw[hY];have z1:Y.cell? ⟨W0.heap.size,1,none⟩=some (.string text):=by rw[<-hY];exact World.cell?_setCell_same _ _ _ HY.out.2.1
  have z0:Y.cell? ⟨W0.heap.size,0,none⟩=some (.int .i64 2):=by rw[<-hY];exact(World.cell?_setCell_other _ _ _ _ (by simp)).trans HY.out.1
  have z2:Y.cell? ⟨W0.heap.size,2,none⟩=some (.int .i64 ic):=by rw[<-hY];exact(World.cell?_setCell_other _ _ _ _ (by simp)).trans HY.out.2.2.1
  have z3:Y.cell? ⟨W0.heap.size,3,none⟩=some (.slice A1 is.length c1):=by rw[<-hY];exact(World.cell?_setCell_other _ _ _ _ (by simp)).trans HY.out.2.2.2
  have ag:Below W0.heap.size W0 Y:=by rw[<-hY];exact au.out.setCell (QT _) _
  obtain⟨⟨m0,m1,m2,m3,m4,m5,m6,m7⟩,aa⟩:=KB.out Y ag;have ah:=hid aa;have aB:Hid (Z8 Z7 Y (NS S W0.heap.size Y) is (.slice A1 is.length c1)):=(YH aO.out ax.out aa).keep (fun _ _=>rfl) (fun q hq=>.inl hq);have ak:=hid ag.size;clear ag aa hY y0 y1 y2 y3
  go_wp2_with fail
  refine(CS.out _ W0.heap.size _ (Zq ah.out _) av.out.size (Tk aN.out aB.out (fun q hq=>QV (ax.out q hq) ah.out.size) ak.out (QQ _ _) rfl) _ rfl).mono ?_;rintro e w6 ⟨v6,rfl,aj,af⟩;have aC:=hid aj;have aD:=hid (Zx (Zq ah.out _) af);have aA:=hid af.size;clear aj af
  go_wp2_with fail
  refine bodyPost_ret (v:=.tuple #[v6,.int .i64 0]) (by simp[results,Tryz.results65,go_sem]) rfl ?_;have aG:=av.out.size;have aP:=ak.out;exact⟨v6,rfl,aC.out.keep (fun _ _=>rfl) (fun q hq=>by
   rcases hq with (hq|hq)|hq
   ·exact .inl hq
   ·exact .inr ⟨by omega,QV hq.2 aA.out⟩
   exact .inr ⟨by have:=hq.1;simp at this;omega,hq.2⟩),aD.out⟩
 ·cases bT
  ·go_enter Tryz.func65,Tryz.ntmps65
   go_upto_region 22 with fail
   obtain⟨X,hX⟩:∃X,W0.alloc (Obj.cells #[.int .i64 3,.string ix,.int .i64 ic,.slice A1 is.length c1] 24)=X:=⟨_,rfl⟩;rw[hX];obtain⟨hy,⟨f0,f1,f2,f3⟩,ae⟩:=KW.out 3 ix ic (.slice A1 is.length c1) X (by rw[hX];exact QQ _ _);have HY:=hid hy;obtain⟨y0,y1,y2,y3⟩:=hy;obtain⟨⟨m0,m1,m2,m3,m4,m5,m6,m7⟩,aa⟩:=KB.out X ae;have ai:=hid aa;have au:=hid ae;have az:Hid (W0.heap.size<X.heap.size):=by show _<_;rw[<-hX];simp
   clear ae aa hX x0 x1 x2 x3
   go_wp2_with fail
   refine bodyPost_ret (v:=.tuple #[.slice none 0 0,.int .i64 7]) (by simp[results,Tryz.results65,go_sem]) rfl ?_;exact⟨_,rfl,Z8.nil_ 0 (QU _) none,ai.out⟩
  go_enter Tryz.func65,Tryz.ntmps65
  go_upto_region 22 with fail
  obtain⟨X,hX⟩:∃X,W0.alloc (Obj.cells #[.int .i64 3,.string ix,.int .i64 ic,.slice A1 is.length c1] 24)=X:=⟨_,rfl⟩;rw[hX];obtain⟨hy,⟨f0,f1,f2,f3⟩,ae⟩:=KW.out 3 ix ic (.slice A1 is.length c1) X (by rw[hX];exact QQ _ _);have HY:=hid hy;obtain⟨y0,y1,y2,y3⟩:=hy;obtain⟨⟨m0,m1,m2,m3,m4,m5,m6,m7⟩,aa⟩:=KB.out X ae;have ai:=hid aa;have au:=hid ae;have az:Hid (W0.heap.size<X.heap.size):=by show _<_;rw[<-hX];simp
  clear ae aa hX x0 x1 x2 x3
  go_upto_region 34 with fail
  obtain⟨Y,hY⟩:∃Y,X.setCell ⟨W0.heap.size,1,none⟩ (.string text)=Y:=⟨_,rfl⟩;rw[hY];have z1:Y.cell? ⟨W0.heap.size,1,none⟩=some (.string text):=by rw[<-hY];exact World.cell?_setCell_same _ _ _ HY.out.2.1
  have z0:Y.cell? ⟨W0.heap.size,0,none⟩=some (.int .i64 3):=by rw[<-hY];exact(World.cell?_setCell_other _ _ _ _ (by simp)).trans HY.out.1
  have z2:Y.cell? ⟨W0.heap.size,2,none⟩=some (.int .i64 ic):=by rw[<-hY];exact(World.cell?_setCell_other _ _ _ _ (by simp)).trans HY.out.2.2.1
  have z3:Y.cell? ⟨W0.heap.size,3,none⟩=some (.slice A1 is.length c1):=by rw[<-hY];exact(World.cell?_setCell_other _ _ _ _ (by simp)).trans HY.out.2.2.2
  have ag:Below W0.heap.size W0 Y:=by rw[<-hY];exact au.out.setCell (QT _) _
  obtain⟨⟨m0,m1,m2,m3,m4,m5,m6,m7⟩,aa⟩:=KB.out Y ag;have ah:=hid aa;have aB:Hid (Z8 Z7 Y (NS S W0.heap.size Y) is (.slice A1 is.length c1)):=(YH aO.out ax.out aa).keep (fun _ _=>rfl) (fun q hq=>.inl hq);have ak:=hid ag.size;clear ag aa hY y0 y1 y2 y3
  go_wp2_with fail
  refine(CS.out _ W0.heap.size _ (Zq ah.out _) av.out.size (Tk aN.out aB.out (fun q hq=>QV (ax.out q hq) ah.out.size) ak.out (QQ _ _) rfl) _ rfl).mono ?_;rintro e w6 ⟨v6,rfl,aj,af⟩;have aC:=hid aj;have aD:=hid (Zx (Zq ah.out _) af);have aA:=hid af.size;clear aj af
  go_wp2_with fail
  refine bodyPost_ret (v:=.tuple #[v6,.int .i64 0]) (by simp[results,Tryz.results65,go_sem]) rfl ?_;have aG:=av.out.size;have aP:=ak.out;exact⟨v6,rfl,aC.out.keep (fun _ _=>rfl) (fun q hq=>by
   rcases hq with (hq|hq)|hq
   ·exact .inl hq
   ·exact .inr ⟨by omega,QV hq.2 aA.out⟩
   exact .inr ⟨by have:=hq.1;simp at this;omega,hq.2⟩),aD.out⟩
 ·cases bT
  ·go_enter Tryz.func65,Tryz.ntmps65
   go_upto_region 22 with fail
   obtain⟨X,hX⟩:∃X,W0.alloc (Obj.cells #[.int .i64 4,.string ix,.int .i64 ic,.slice A1 is.length c1] 24)=X:=⟨_,rfl⟩;rw[hX];obtain⟨hy,⟨f0,f1,f2,f3⟩,ae⟩:=KW.out 4 ix ic (.slice A1 is.length c1) X (by rw[hX];exact QQ _ _);have HY:=hid hy;obtain⟨y0,y1,y2,y3⟩:=hy;obtain⟨⟨m0,m1,m2,m3,m4,m5,m6,m7⟩,aa⟩:=KB.out X ae;have ai:=hid aa;have au:=hid ae;have az:Hid (W0.heap.size<X.heap.size):=by show _<_;rw[<-hX];simp
   clear ae aa hX x0 x1 x2 x3
   go_wp2_with fail
   refine bodyPost_ret (v:=.tuple #[.slice none 0 0,.int .i64 7]) (by simp[results,Tryz.results65,go_sem]) rfl ?_;exact⟨_,rfl,Z8.nil_ 0 (QU _) none,ai.out⟩
  go_enter Tryz.func65,Tryz.ntmps65
  go_upto_region 22 with fail
  obtain⟨X,hX⟩:∃X,W0.alloc (Obj.cells #[.int .i64 4,.string ix,.int .i64 ic,.slice A1 is.length c1] 24)=X:=⟨_,rfl⟩;rw[hX];obtain⟨hy,⟨f0,f1,f2,f3⟩,ae⟩:=KW.out 4 ix ic (.slice A1 is.length c1) X (by rw[hX];exact QQ _ _);have HY:=hid hy;obtain⟨y0,y1,y2,y3⟩:=hy;obtain⟨⟨m0,m1,m2,m3,m4,m5,m6,m7⟩,aa⟩:=KB.out X ae;have ai:=hid aa;have au:=hid ae;have az:Hid (W0.heap.size<X.heap.size):=by show _<_;rw[<-hX];simp
  clear ae aa hX x0 x1 x2 x3
  go_upto_region 34 with fail
  obtain⟨Y,hY⟩:∃Y,X.setCell ⟨W0.heap.size,1,none⟩ (.string text)=Y:=⟨_,rfl⟩;rw[hY];have z1:Y.cell? ⟨W0.heap.size,1,none⟩=some (.string text):=by rw[<-hY];exact World.cell?_setCell_same _ _ _ HY.out.2.1
  have z0:Y.cell? ⟨W0.heap.size,0,none⟩=some (.int .i64 4):=by rw[<-hY];exact(World.cell?_setCell_other _ _ _ _ (by simp)).trans HY.out.1
  have z2:Y.cell? ⟨W0.heap.size,2,none⟩=some (.int .i64 ic):=by rw[<-hY];exact(World.cell?_setCell_other _ _ _ _ (by simp)).trans HY.out.2.2.1
  have z3:Y.cell? ⟨W0.heap.size,3,none⟩=some (.slice A1 is.length c1):=by rw[<-hY];exact(World.cell?_setCell_other _ _ _ _ (by simp)).trans HY.out.2.2.2
  have ag:Below W0.heap.size W0 Y:=by rw[<-hY];exact au.out.setCell (QT _) _
  obtain⟨⟨m0,m1,m2,m3,m4,m5,m6,m7⟩,aa⟩:=KB.out Y ag;have ah:=hid aa;have aB:Hid (Z8 Z7 Y (NS S W0.heap.size Y) is (.slice A1 is.length c1)):=(YH aO.out ax.out aa).keep (fun _ _=>rfl) (fun q hq=>.inl hq);have ak:=hid ag.size;clear ag aa hY y0 y1 y2 y3
  go_wp2_with fail
  refine(CS.out _ W0.heap.size _ (Zq ah.out _) av.out.size (Tk aN.out aB.out (fun q hq=>QV (ax.out q hq) ah.out.size) ak.out (QQ _ _) rfl) _ rfl).mono ?_;rintro e w6 ⟨v6,rfl,aj,af⟩;have aC:=hid aj;have aD:=hid (Zx (Zq ah.out _) af);have aA:=hid af.size;clear aj af
  go_wp2_with fail
  refine bodyPost_ret (v:=.tuple #[v6,.int .i64 0]) (by simp[results,Tryz.results65,go_sem]) rfl ?_;have aG:=av.out.size;have aP:=ak.out;exact⟨v6,rfl,aC.out.keep (fun _ _=>rfl) (fun q hq=>by
   rcases hq with (hq|hq)|hq
   ·exact .inl hq
   ·exact .inr ⟨by omega,QV hq.2 aA.out⟩
   exact .inr ⟨by have:=hq.1;simp at this;omega,hq.2⟩),aD.out⟩
 ·cases bT
  ·go_enter Tryz.func65,Tryz.ntmps65
   go_upto_region 22 with fail
   obtain⟨X,hX⟩:∃X,W0.alloc (Obj.cells #[.int .i64 10,.string ix,.int .i64 ic,.slice A1 is.length c1] 24)=X:=⟨_,rfl⟩;rw[hX];obtain⟨hy,⟨f0,f1,f2,f3⟩,ae⟩:=KW.out 10 ix ic (.slice A1 is.length c1) X (by rw[hX];exact QQ _ _);have HY:=hid hy;obtain⟨y0,y1,y2,y3⟩:=hy;obtain⟨⟨m0,m1,m2,m3,m4,m5,m6,m7⟩,aa⟩:=KB.out X ae;have ai:=hid aa;have au:=hid ae;have az:Hid (W0.heap.size<X.heap.size):=by show _<_;rw[<-hX];simp
   clear ae aa hX x0 x1 x2 x3
   go_wp2_with fail
   refine bodyPost_ret (v:=.tuple #[.slice none 0 0,.int .i64 7]) (by simp[results,Tryz.results65,go_sem]) rfl ?_;exact⟨_,rfl,Z8.nil_ 0 (QU _) none,ai.out⟩
  go_enter Tryz.func65,Tryz.ntmps65
  go_upto_region 22 with fail
  obtain⟨X,hX⟩:∃X,W0.alloc (Obj.cells #[.int .i64 10,.string ix,.int .i64 ic,.slice A1 is.length c1] 24)=X:=⟨_,rfl⟩;rw[hX];obtain⟨hy,⟨f0,f1,f2,f3⟩,ae⟩:=KW.out 10 ix ic (.slice A1 is.length c1) X (by rw[hX];exact QQ _ _);have HY:=hid hy;obtain⟨y0,y1,y2,y3⟩:=hy;obtain⟨⟨m0,m1,m2,m3,m4,m5,m6,m7⟩,aa⟩:=KB.out X ae;have ai:=hid aa;have au:=hid ae;have az:Hid (W0.heap.size<X.heap.size):=by show _<_;rw[<-hX];simp
  clear ae aa hX x0 x1 x2 x3
  go_upto_region 34 with fail
  obtain⟨Y,hY⟩:∃Y,X.setCell ⟨W0.heap.size,1,none⟩ (.string text)=Y:=⟨_,rfl⟩;rw[hY];have z1:Y.cell? ⟨W0.heap.size,1,none⟩=some (.string text):=by rw[<-hY];exact World.cell?_setCell_same _ _ _ HY.out.2.1
  have z0:Y.cell? ⟨W0.heap.size,0,none⟩=some (.int .i64 10):=by rw[<-hY];exact(World.cell?_setCell_other _ _ _ _ (by simp)).trans HY.out.1
  have z2:Y.cell? ⟨W0.heap.size,2,none⟩=some (.int .i64 ic):=by rw[<-hY];exact(World.cell?_setCell_other _ _ _ _ (by simp)).trans HY.out.2.2.1
  have z3:Y.cell? ⟨W0.heap.size,3,none⟩=some (.slice A1 is.length c1):=by rw[<-hY];exact(World.cell?_setCell_other _ _ _ _ (by simp)).trans HY.out.2.2.2
  have ag:Below W0.heap.size W0 Y:=by rw[<-hY];exact au.out.setCell (QT _) _
  obtain⟨⟨m0,m1,m2,m3,m4,m5,m6,m7⟩,aa⟩:=KB.out Y ag;have ah:=hid aa;have aB:Hid (Z8 Z7 Y (NS S W0.heap.size Y) is (.slice A1 is.length c1)):=(YH aO.out ax.out aa).keep (fun _ _=>rfl) (fun q hq=>.inl hq);have ak:=hid ag.size;clear ag aa hY y0 y1 y2 y3
  go_wp2_with fail
  refine(CS.out _ W0.heap.size _ (Zq ah.out _) av.out.size (Tk aN.out aB.out (fun q hq=>QV (ax.out q hq) ah.out.size) ak.out (QQ _ _) rfl) _ rfl).mono ?_;rintro e w6 ⟨v6,rfl,aj,af⟩;have aC:=hid aj;have aD:=hid (Zx (Zq ah.out _) af);have aA:=hid af.size;clear aj af
  go_wp2_with fail
  refine bodyPost_ret (v:=.tuple #[v6,.int .i64 0]) (by simp[results,Tryz.results65,go_sem]) rfl ?_;have aG:=av.out.size;have aP:=ak.out;exact⟨v6,rfl,aC.out.keep (fun _ _=>rfl) (fun q hq=>by
   rcases hq with (hq|hq)|hq
   ·exact .inl hq
   ·exact .inr ⟨by omega,QV hq.2 aA.out⟩
   exact .inr ⟨by have:=hq.1;simp at this;omega,hq.2⟩),aD.out⟩
 cases bT
 ·go_enter Tryz.func65,Tryz.ntmps65
  go_upto_region 22 with fail
  obtain⟨X,hX⟩:∃X,W0.alloc (Obj.cells #[.int .i64 11,.string ix,.int .i64 ic,.slice A1 is.length c1] 24)=X:=⟨_,rfl⟩;rw[hX];obtain⟨hy,⟨f0,f1,f2,f3⟩,ae⟩:=KW.out 11 ix ic (.slice A1 is.length c1) X (by rw[hX];exact QQ _ _);have HY:=hid hy;obtain⟨y0,y1,y2,y3⟩:=hy;obtain⟨⟨m0,m1,m2,m3,m4,m5,m6,m7⟩,aa⟩:=KB.out X ae;have ai:=hid aa;have au:=hid ae;have az:Hid (W0.heap.size<X.heap.size):=by show _<_;rw[<-hX];simp
  clear ae aa hX x0 x1 x2 x3
  go_wp2_with fail
  refine bodyPost_ret (v:=.tuple #[.slice none 0 0,.int .i64 7]) (by simp[results,Tryz.results65,go_sem]) rfl ?_;exact⟨_,rfl,Z8.nil_ 0 (QU _) none,ai.out⟩
 go_enter Tryz.func65,Tryz.ntmps65
 go_upto_region 22 with fail
 obtain⟨X,hX⟩:∃X,W0.alloc (Obj.cells #[.int .i64 11,.string ix,.int .i64 ic,.slice A1 is.length c1] 24)=X:=⟨_,rfl⟩;rw[hX];obtain⟨hy,⟨f0,f1,f2,f3⟩,ae⟩:=KW.out 11 ix ic (.slice A1 is.length c1) X (by rw[hX];exact QQ _ _);have HY:=hid hy;obtain⟨y0,y1,y2,y3⟩:=hy;obtain⟨⟨m0,m1,m2,m3,m4,m5,m6,m7⟩,aa⟩:=KB.out X ae;have ai:=hid aa;have au:=hid ae;have az:Hid (W0.heap.size<X.heap.size):=by show _<_;rw[<-hX];simp
 clear ae aa hX x0 x1 x2 x3
 go_upto_region 34 with fail
 obtain⟨Y,hY⟩:∃Y,X.setCell ⟨W0.heap.size,1,none⟩ (.string text)=Y:=⟨_,rfl⟩;rw[hY];have z1:Y.cell? ⟨W0.heap.size,1,none⟩=some (.string text):=by rw[<-hY];exact World.cell?_setCell_same _ _ _ HY.out.2.1
 have z0:Y.cell? ⟨W0.heap.size,0,none⟩=some (.int .i64 11):=by rw[<-hY];exact(World.cell?_setCell_other _ _ _ _ (by simp)).trans HY.out.1
 have z2:Y.cell? ⟨W0.heap.size,2,none⟩=some (.int .i64 ic):=by rw[<-hY];exact(World.cell?_setCell_other _ _ _ _ (by simp)).trans HY.out.2.2.1
 have z3:Y.cell? ⟨W0.heap.size,3,none⟩=some (.slice A1 is.length c1):=by rw[<-hY];exact(World.cell?_setCell_other _ _ _ _ (by simp)).trans HY.out.2.2.2
 have ag:Below W0.heap.size W0 Y:=by rw[<-hY];exact au.out.setCell (QT _) _
 obtain⟨⟨m0,m1,m2,m3,m4,m5,m6,m7⟩,aa⟩:=KB.out Y ag;have ah:=hid aa;have aB:Hid (Z8 Z7 Y (NS S W0.heap.size Y) is (.slice A1 is.length c1)):=(YH aO.out ax.out aa).keep (fun _ _=>rfl) (fun q hq=>.inl hq);have ak:=hid ag.size;clear ag aa hY y0 y1 y2 y3
 go_wp2_with fail
 refine(CS.out _ W0.heap.size _ (Zq ah.out _) av.out.size (Tk aN.out aB.out (fun q hq=>QV (ax.out q hq) ah.out.size) ak.out (QQ _ _) rfl) _ rfl).mono ?_;rintro e w6 ⟨v6,rfl,aj,af⟩;have aC:=hid aj;have aD:=hid (Zx (Zq ah.out _) af);have aA:=hid af.size;clear aj af
 go_wp2_with fail
 refine bodyPost_ret (v:=.tuple #[v6,.int .i64 0]) (by simp[results,Tryz.results65,go_sem]) rfl ?_;have aG:=av.out.size;have aP:=ak.out;exact⟨v6,rfl,aC.out.keep (fun _ _=>rfl) (fun q hq=>by
  rcases hq with (hq|hq)|hq
  ·exact .inl hq
  ·exact .inr ⟨by omega,QV hq.2 aA.out⟩
  exact .inr ⟨by have:=hq.1;simp at this;omega,hq.2⟩),aD.out⟩
