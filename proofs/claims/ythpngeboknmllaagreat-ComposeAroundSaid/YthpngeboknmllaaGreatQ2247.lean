/- T -/
import Derived.Test.YthpngeboknmllaaGreatQa65a
set_option linter.unusedVariables false
set_option linter.unusedSimpArgs false
set_option maxHeartbeats 8000000
set_option maxRecDepth 100000
namespace Go.Proofs.YthpngeboknmllaaGreat
open Go.RowKit
theorem Vb (l:List Z9) (row:List Int) (at_ n slot:Int) (nodes:List Z9) (old text:ByteArray) (A Ar An:Option Addr) (cap lr cr cn:Nat) (w:World) (S:Nat->Prop) (hS:∀q,S q->q<w.heap.size) (hl:Z8 Z7 w S l (.slice A l.length cap)) (hn:Z8 Z7 w S nodes (.slice An nodes.length cn)) (hat:Z4 at_) (hcl:ZT l<=1000000) (hcn:ZT nodes<=1000000) (hn0:0<=n) (bg:Z4 n) (aQ:Yf nodes slot=true) :
  Calls Tryz.prog 65 #[.slice A l.length cap,.agg (Zu ⟨3,row,at_,n,nodes,slot,old,text⟩ (.slice Ar lr cr) (.slice An nodes.length cn))] w (XB S w (ZC l ⟨3,row,at_,n,nodes,slot,old,text⟩)):=by
 have bn:l.length<=1000000:=by have:=WG l;omega
 have hln:nodes.length<=1000000:=by have:=WG nodes;omega
 have ae:YM ⟨3,row,at_,n,nodes,slot,old,text⟩=n:=by simp[YM]
 have ah:=hid hS;generalize aC:w.alloc (.cells (Zu ⟨3,row,at_,n,nodes,slot,old,text⟩ (.slice Ar lr cr) (.slice An nodes.length cn)) 49)=W0;have aJ:W0.heap.size=w.heap.size+1:=by rw[<-aC];simp
 have KB:Hid (∀W,Below W0.heap.size W0 W->Yv W w.heap.size ⟨3,row,at_,n,nodes,slot,old,text⟩ (.slice Ar lr cr) (.slice An nodes.length cn)/\Below w.heap.size w W):=fun W hW=>by
  have h0:Yv W0 w.heap.size ⟨3,row,at_,n,nodes,slot,old,text⟩ (.slice Ar lr cr) (.slice An nodes.length cn):=by rw[<-aC];exact Yv.new _ _ _ _ _
  have aA:Below w.heap.size w W0:=by rw[<-aC];exact ZX _ _
  exact⟨h0.below hW (by omega),aA.trans (hW.mono aA.size)⟩
 obtain⟨⟨m0,m1,m2,m3,m4,m5,m6,m7⟩,aA⟩:=KB.out W0 (QQ _ _);have ai:=hid aA;have HZ0:=hid aJ;have HL:=hid hl;have HN:=hid hn;simp only[Zu] at *;clear hS hl hn aA aJ;rcases Int.lt_or_le at_ 0 with r0|r0
 ·have i0:decide (at_<0)=true:=by simpa using r0
  have hr:ZC l ⟨3,row,at_,n,nodes,slot,old,text⟩=([],2):=if_pos (by rw[ae];simp only;omega);rw[hr];clear hr ae;go_enter Tryz.func65,Tryz.ntmps65
  go_wp2_with fail
  refine bodyPost_ret (v:=.tuple #[.slice none 0 0,.int .i64 2]) (by simp[results,Tryz.results65,go_sem]) rfl ?_;exact⟨_,rfl,Z8.nil_ 0 (QU _) none,ai.out⟩
 have i0:decide (at_<0)=false:=by simpa using r0
 rcases Int.lt_or_le (l.length:Int) at_ with r1|r1
 ·have i1:decide ((l.length:Int)<at_)=true:=by simpa using r1
  have hr:ZC l ⟨3,row,at_,n,nodes,slot,old,text⟩=([],2):=if_pos (by rw[ae];simp only;omega);rw[hr];clear hr ae;go_enter Tryz.func65,Tryz.ntmps65
  go_wp2_with fail
  refine bodyPost_ret (v:=.tuple #[.slice none 0 0,.int .i64 2]) (by simp[results,Tryz.results65,go_sem]) rfl ?_;exact⟨_,rfl,Z8.nil_ 0 (QU _) none,ai.out⟩
 have i1:decide ((l.length:Int)<at_)=false:=by simpa using r1
 have w1:IntKind.i64.wrap ((l.length:Int)-at_)=(l.length:Int)-at_:=IntWalk.i64_in _ (by omega);rcases Int.lt_or_le ((l.length:Int)-at_) (n) with r2|r2
 ·have i2:decide ((l.length:Int)-at_<n)=true:=by simpa using r2
  have hr:ZC l ⟨3,row,at_,n,nodes,slot,old,text⟩=([],2):=if_pos (by rw[ae];simp only;omega);rw[hr];clear hr ae;go_enter Tryz.func65,Tryz.ntmps65
  go_wp2_with fail
  refine bodyPost_ret (v:=.tuple #[.slice none 0 0,.int .i64 2]) (by simp[results,Tryz.results65,go_sem]) rfl ?_;exact⟨_,rfl,Z8.nil_ 0 (QU _) none,ai.out⟩
 have i2:decide ((l.length:Int)-at_<n)=false:=by simpa using r2
 have w2:IntKind.i64.wrap (at_+n)=at_+n:=IntWalk.i64_in _ (by omega);have w3:IntKind.i64.wrap at_=at_:=IntWalk.i64_in _ (by omega);have aU:¬(at_<0\/(l.length:Int)<at_\/(l.length:Int)-at_<YM ⟨3,row,at_,n,nodes,slot,old,text⟩):=by rw[ae];omega
 obtain⟨a,ha⟩:∃a:Nat,at_=a:=⟨at_.toNat,by omega⟩;obtain⟨b,hb⟩:∃b:Nat,at_+n=b:=⟨(at_+n).toNat,by omega⟩;have bi:l.length<=cap:=by obtain⟨_,_,_,hq,h1,_⟩:=HL.out;cases hq;exact h1
 obtain⟨A1,aX,hcut⟩:=RZ Z7 Tryz.underlying22 VZ A l.length cap at_ (at_+n) a b ha hb (by omega) (by omega) bi;obtain⟨t0,aM,aZ,aY,bu⟩:=zE4 aQ;subst aM;have aN:=HN.out;obtain⟨_,_,rs0,hq,_,_,au,ay⟩:=aN;cases hq;obtain⟨g0,o0,A0,c0,aW,rfl,bz,aI,aH,aG,aF,b1,b2,b3,b4,b5,af,ag⟩:=Y5 au ay (k:=0) (by simp);simp only[Nat.zero_mul,Nat.add_zero,List.getElem_cons_zero,List.length_cons,List.length_nil,Nat.zero_add] at aI aH aG aF b1 b2 b3 b4 b5 af ag m0 m1 m2 m3 m4 m5 m6 m7 aC;have ax:Zt t0:=⟨b1,b2,b3⟩;have ak:Z8 Z7 w S t0.kids (.slice A0 t0.kids.length c0):=⟨_,_,aW,rfl,b4,b5,af,ag⟩;have aa:g0<w.heap.size:=ah.out _ bz;have KN:Hid (∀W,Below w.heap.size w W->W.cell? ⟨g0,o0,none⟩=some (.int .i64 t0.kind)/\W.cell? ⟨g0,o0+1,none⟩=some (.string t0.text)/\W.cell? ⟨g0,o0+2,none⟩=some (.int .i64 t0.cols)/\W.cell? ⟨g0,o0+3,none⟩=some (.slice A0 t0.kids.length c0)):=fun W hW =>
  ⟨(hW.cell (p:=⟨g0,_,none⟩) aa).trans aI,(hW.cell (p:=⟨g0,_,none⟩) aa).trans aH,(hW.cell (p:=⟨g0,_,none⟩) aa).trans aG,(hW.cell (p:=⟨g0,_,none⟩) aa).trans aF⟩
 obtain⟨s',aK⟩:∃s':Nat,slot=s':=⟨slot.toNat,by omega⟩;have aS:s'<t0.kids.length:=by omega
 have aR:t0.kids.length<=1000000:=by
  have h1:=Yz t0;have h2:ZT [t0]=ZW t0+0:=rfl;omega
 have hr:ZC l ⟨3,row,at_,n,[t0],slot,old,text⟩=(Zk l a b [Zp t0 s' ((l.take b).drop a)],0):=by
  unfold ZC;rw[if_neg aU,if_neg (by simp),if_neg (by simp),if_pos rfl];simp only[hb];simp only[ha,aK,Int.toNat_natCast,List.headD_cons]
 rw[hr];have az:((l.take b).drop a).length=b-a:=by simp;omega
 have aO:=hcut _ _ _ HL.out;rw[<-az] at aO aX;have CF:Hid (∀W,Below w.heap.size w W->Calls Tryz.prog 105 #[.agg #[.int .i64 t0.kind,.string t0.text,.int .i64 t0.cols,.slice A0 t0.kids.length c0],.int .i64 slot,.slice A1 ((l.take b).drop a).length (cap-a)] W (XO S W (Zp t0 s' ((l.take b).drop a)))):=fun W hW=>by
  rw[aK];exact zJr t0 s' ((l.take b).drop a) A0 A1 c0 (cap-a) W S (fun q hq=>QV (ah.out q hq) hW.size) aS aR (by omega) (YH ak ah.out hW) (YH aO ah.out hW)
 have av:Zt (Zp t0 s' ((l.take b).drop a)):=ax;have CS:Hid (∀W b0 v,Below w.heap.size w W->w.heap.size<=b0->Z8 Z7 W (NS S b0 W) [Zp t0 s' ((l.take b).drop a)] v->∀B',v=.slice B' 1 1->Calls Tryz.prog 104 #[.slice A l.length cap,.int .i64 at_,.int .i64 (at_+n),v] W (XN (NS S b0 W) W (Zk l a b [Zp t0 s' ((l.take b).drop a)]))):=by
  intro W b0 v hW hb0 hr B' hv;subst hv;exact RG l [Zp t0 s' ((l.take b).drop a)] at_ (at_+n) a b A B' cap 1 W (NS S b0 W) (fun q hq=>by
   have hz:=hW.size;rcases hq with hq|hq
   ·have:=ah.out q hq;omega
   exact hq.2) ha hb (by omega) (by omega) bn (by simp) ((YH HL.out ah.out hW).keep (fun _ _=>rfl) (fun q hq=>.inl hq)) hr
 generalize Zp t0 s' ((l.take b).drop a)=R at *;generalize Zk l a b [R]=L at *;generalize ((l.take b).drop a).length=n2 at *;obtain⟨q0,q1,q2,q3⟩:=KN.out W0 ai.out;obtain⟨tk,tx,tc,ts⟩:=t0;obtain⟨rk,rx,rc,rs⟩:=R;simp only[Z9.kind,Z9.text,Z9.cols,Z9.kids] at *;have bG:=hid av;clear aU hr hb r0 r1 r2 ae hcut aO az ha aQ aZ aY bu aK aS aR au ay af ag b1 b2 b3 b4 b5 ax ak av aI aH aG aF;go_enter Tryz.func65,Tryz.ntmps65
 go_wp2_with fail
 go_region_held3 (fun w'=>w'.cell? ⟨w.heap.size,2,none⟩=some (.int .i64 at_)/\w'.cell? ⟨w.heap.size,4,none⟩=some (.slice (some ⟨g0,o0,none⟩) 1 cn)/\w'.cell? ⟨w.heap.size,5,none⟩=some (.int .i64 slot)/\w'.cell? ⟨g0,o0,none⟩=some (.int .i64 tk)/\w'.cell? ⟨g0,o0+1,none⟩=some (.string tx)/\w'.cell? ⟨g0,o0+2,none⟩=some (.int .i64 tc)/\w'.cell? ⟨g0,o0+3,none⟩=some (.slice A0 ts.length c0)) (go_keep) (first
  |(go_at_call 105;refine(CF.out _ (XF ai.out)).mono ?_;intro e w5 h5;obtain⟨v5,rfl,aL,aV⟩:∃v,e=.returned (.agg #[.int .i64 rk,.string rx,.int .i64 rc,v])/\Z8 Z7 w5 (NS S W0.heap.size w5) rs v/\Below W0.heap.size W0 w5:=by { obtain⟨v,e1,e2,e3⟩:=XO.ns h5 (b:=W0.heap.size) (QT _);exact⟨v,e1,e2,Xt e3⟩ };obtain⟨A5,c5,rfl⟩:=aL.form;have bD:=hid aL;have aD:=hid aV;clear aL aV;obtain⟨⟨k0,k1,k2,k3,k4,k5,k6,k7⟩,aj⟩:=KB.out w5 aD.out;have aP:=hid aj;obtain⟨q0,q1,q2,q3⟩:=KN.out w5 aj;clear aj)
  |(go_at_call 104;refine(CS.out _ W0.heap.size _ (Zq aP.out _) ai.out.size (Tk bG.out bD.out (fun q hq=>QV (ah.out q hq) aP.out.size) aD.out.size (QQ _ _) rfl) _ rfl).mono ?_;rintro e w6 ⟨v6,rfl,aT,aB⟩;have bC:=hid aT;have bA:=hid (Zx (Zq aD.out _) aB);have bB:=hid aB.size;have bH:=hid (Zx (Zq aP.out _) aB);clear aT aB;obtain⟨⟨k0,k1,k2,k3,k4,k5,k6,k7⟩,aj⟩:=KB.out w6 bA.out;obtain⟨q0,q1,q2,q3⟩:=KN.out w6 aj;clear aj))
 all_goals
  go_wp2_with fail
  refine bodyPost_ret (v:=.tuple #[v6,.int .i64 0]) (by simp[results,Tryz.results65,go_sem]) rfl ?_;have aJ:=ai.out.size;have hz5:=aD.out.size;exact⟨v6,rfl,bC.out.keep (fun _ _=>rfl) (fun q hq=>by
   rcases hq with (hq|hq)|hq
   ·exact .inl hq
   ·exact .inr ⟨by omega,QV hq.2 bB.out⟩
   exact .inr ⟨by have:=hq.1;simp at this;omega,hq.2⟩),bH.out⟩
