/- T -/
import Derived.Test.YthpngeboknmllaaGreatQc901
set_option linter.unusedVariables false
set_option linter.unusedSimpArgs false
set_option maxHeartbeats 8000000
set_option maxRecDepth 100000
namespace Go.Proofs.YthpngeboknmllaaGreat
open Go.RowKit
theorem Ut (l:List Z9) (row:List Int) (at_ n slot:Int) (nodes:List Z9) (old text:ByteArray) (A Ar An:Option Addr) (cap lr cr cn:Nat) (w:World) (S:Nat->Prop) (hS:∀q,S q->q<w.heap.size) (hl:Z8 Z6 w S l (.slice A l.length cap)) (hn:Z8 Z6 w S nodes (.slice An nodes.length cn)) (hat:Z4 at_) (hcl:ZQ l<=1000000) (hcn:ZQ nodes<=1000000) (hn0:0<=n) (bn:Z4 n) (aR:Ye nodes slot=true) :
  Calls Tryz.prog 65 #[.slice A l.length cap,.agg (Zm ⟨3,row,at_,n,nodes,slot,old,text⟩ (.slice Ar lr cr) (.slice An nodes.length cn))] w (Xz S w (ZH l ⟨3,row,at_,n,nodes,slot,old,text⟩)):=by
 have bu:l.length<=1000000:=by have:=Wz l;omega
 have hln:nodes.length<=1000000:=by have:=Wz nodes;omega
 have ae:Y7 ⟨3,row,at_,n,nodes,slot,old,text⟩=n:=by simp[Y7]
 have ah:=hid hS;generalize aD:w.alloc (.cells (Zm ⟨3,row,at_,n,nodes,slot,old,text⟩ (.slice Ar lr cr) (.slice An nodes.length cn)) 49)=W0;have aK:W0.heap.size=w.heap.size+1:=by rw[<-aD];simp
 have KB:Hid (∀W,Below W0.heap.size W0 W->Ym W w.heap.size ⟨3,row,at_,n,nodes,slot,old,text⟩ (.slice Ar lr cr) (.slice An nodes.length cn)/\Below w.heap.size w W):=fun W hW=>by
  have h0:Ym W0 w.heap.size ⟨3,row,at_,n,nodes,slot,old,text⟩ (.slice Ar lr cr) (.slice An nodes.length cn):=by rw[<-aD];exact Ym.new _ _ _ _ _
  have aB:Below w.heap.size w W0:=by rw[<-aD];exact ZW _ _
  exact⟨h0.below hW (by omega),aB.trans (hW.mono aB.size)⟩
 obtain⟨⟨m0,m1,m2,m3,m4,m5,m6,m7⟩,aB⟩:=KB.out W0 (Qg _ _);have aj:=hid aB;have HZ0:=hid aK;have HL:=hid hl;have HN:=hid hn;simp only[Zm] at *;clear hS hl hn aB aK;rcases Int.lt_or_le at_ 0 with r0|r0
 ·have i0:decide (at_<0)=true:=by simpa using r0
  have hr:ZH l ⟨3,row,at_,n,nodes,slot,old,text⟩=([],2):=if_pos (by rw[ae];simp only;omega);rw[hr];clear hr ae;go_enter Tryz.func65,Tryz.ntmps65
  go_wp2_with fail
  refine bodyPost_ret (v:=.tuple #[.slice none 0 0,.int .i64 2]) (by simp[results,Tryz.results65,go_sem]) rfl ?_;exact⟨_,rfl,Z8.nil_ 0 (Qj _) none,aj.out⟩
 have i0:decide (at_<0)=false:=by simpa using r0
 rcases Int.lt_or_le (l.length:Int) at_ with r1|r1
 ·have i1:decide ((l.length:Int)<at_)=true:=by simpa using r1
  have hr:ZH l ⟨3,row,at_,n,nodes,slot,old,text⟩=([],2):=if_pos (by rw[ae];simp only;omega);rw[hr];clear hr ae;go_enter Tryz.func65,Tryz.ntmps65
  go_wp2_with fail
  refine bodyPost_ret (v:=.tuple #[.slice none 0 0,.int .i64 2]) (by simp[results,Tryz.results65,go_sem]) rfl ?_;exact⟨_,rfl,Z8.nil_ 0 (Qj _) none,aj.out⟩
 have i1:decide ((l.length:Int)<at_)=false:=by simpa using r1
 have w1:IntKind.i64.wrap ((l.length:Int)-at_)=(l.length:Int)-at_:=IntWalk.i64_in _ (by omega);rcases Int.lt_or_le ((l.length:Int)-at_) (n) with r2|r2
 ·have i2:decide ((l.length:Int)-at_<n)=true:=by simpa using r2
  have hr:ZH l ⟨3,row,at_,n,nodes,slot,old,text⟩=([],2):=if_pos (by rw[ae];simp only;omega);rw[hr];clear hr ae;go_enter Tryz.func65,Tryz.ntmps65
  go_wp2_with fail
  refine bodyPost_ret (v:=.tuple #[.slice none 0 0,.int .i64 2]) (by simp[results,Tryz.results65,go_sem]) rfl ?_;exact⟨_,rfl,Z8.nil_ 0 (Qj _) none,aj.out⟩
 have i2:decide ((l.length:Int)-at_<n)=false:=by simpa using r2
 have w2:IntKind.i64.wrap (at_+n)=at_+n:=IntWalk.i64_in _ (by omega);have w3:IntKind.i64.wrap at_=at_:=IntWalk.i64_in _ (by omega);have aV:¬(at_<0\/(l.length:Int)<at_\/(l.length:Int)-at_<Y7 ⟨3,row,at_,n,nodes,slot,old,text⟩):=by rw[ae];omega
 obtain⟨a,ha⟩:∃a:Nat,at_=a:=⟨at_.toNat,by omega⟩;obtain⟨b,hb⟩:∃b:Nat,at_+n=b:=⟨(at_+n).toNat,by omega⟩;have bq:l.length<=cap:=by obtain⟨_,_,_,hq,h1,_⟩:=HL.out;cases hq;exact h1
 obtain⟨A1,aY,hcut⟩:=Qt Z6 Tryz.underlying22 Vw A l.length cap at_ (at_+n) a b ha hb (by omega) (by omega) bq;obtain⟨t0,aN,bg,aZ,bz⟩:=R9 aR;subst aN;have aO:=HN.out;obtain⟨_,_,rs0,hq,_,_,av,az⟩:=aO;cases hq;obtain⟨g0,o0,A0,c0,aX,rfl,bA,aJ,aI,aH,aG,b1,b2,b3,b4,b5,af,ag⟩:=YW av az (k:=0) (by simp);simp only[Nat.zero_mul,Nat.add_zero,List.getElem_cons_zero,List.length_cons,List.length_nil,Nat.zero_add] at aJ aI aH aG b1 b2 b3 b4 b5 af ag m0 m1 m2 m3 m4 m5 m6 m7 aD;have ay:Zk t0:=⟨b1,b2,b3⟩;have au:Z8 Z6 w S t0.kids (.slice A0 t0.kids.length c0):=⟨_,_,aX,rfl,b4,b5,af,ag⟩;have aa:g0<w.heap.size:=ah.out _ bA;have KN:Hid (∀W,Below w.heap.size w W->W.cell? ⟨g0,o0,none⟩=some (.int .i64 t0.kind)/\W.cell? ⟨g0,o0+1,none⟩=some (.string t0.text)/\W.cell? ⟨g0,o0+2,none⟩=some (.int .i64 t0.cols)/\W.cell? ⟨g0,o0+3,none⟩=some (.slice A0 t0.kids.length c0)):=fun W hW =>
  ⟨(hW.cell (p:=⟨g0,_,none⟩) aa).trans aJ,(hW.cell (p:=⟨g0,_,none⟩) aa).trans aI,(hW.cell (p:=⟨g0,_,none⟩) aa).trans aH,(hW.cell (p:=⟨g0,_,none⟩) aa).trans aG⟩
 obtain⟨s',aL⟩:∃s':Nat,slot=s':=⟨slot.toNat,by omega⟩;have aT:s'<t0.kids.length:=by omega
 have aS:t0.kids.length<=1000000:=by
  have h1:=XW t0;have h2:ZQ [t0]=ZR t0+0:=rfl;omega
 have hr:ZH l ⟨3,row,at_,n,[t0],slot,old,text⟩=(Zn l a b [Zj t0 s' ((l.take b).drop a)],0):=by
  unfold ZH;rw[if_neg aV,if_neg (by simp),if_neg (by simp),if_pos rfl];simp only[hb];simp only[ha,aL,Int.toNat_natCast,List.headD_cons]
 rw[hr];have aA:((l.take b).drop a).length=b-a:=by simp;omega
 have aP:=hcut _ _ _ HL.out;rw[<-aA] at aP aY;have CF:Hid (∀W,Below w.heap.size w W->Calls Tryz.prog 105 #[.agg #[.int .i64 t0.kind,.string t0.text,.int .i64 t0.cols,.slice A0 t0.kids.length c0],.int .i64 slot,.slice A1 ((l.take b).drop a).length (cap-a)] W (XC S W (Zj t0 s' ((l.take b).drop a)))):=fun W hW=>by
  rw[aL];exact zJr t0 s' ((l.take b).drop a) A0 A1 c0 (cap-a) W S (fun q hq=>Qk (ah.out q hq) hW.size) aT aS (by omega) (Yx au ah.out hW) (Yx aP ah.out hW)
 have ax:Zk (Zj t0 s' ((l.take b).drop a)):=ay;have CS:Hid (∀W b0 v,Below w.heap.size w W->w.heap.size<=b0->Z8 Z6 W (NS S b0 W) [Zj t0 s' ((l.take b).drop a)] v->∀B',v=.slice B' 1 1->Calls Tryz.prog 104 #[.slice A l.length cap,.int .i64 at_,.int .i64 (at_+n),v] W (XL (NS S b0 W) W (Zn l a b [Zj t0 s' ((l.take b).drop a)]))):=by
  intro W b0 v hW hb0 hr B' hv;subst hv;exact zEk l [Zj t0 s' ((l.take b).drop a)] at_ (at_+n) a b A B' cap 1 W (NS S b0 W) (fun q hq=>by
   have hz:=hW.size;rcases hq with hq|hq
   ·have:=ah.out q hq;omega
   exact hq.2) ha hb (by omega) (by omega) bu (by simp) ((Yx HL.out ah.out hW).keep (fun _ _=>rfl) (fun q hq=>.inl hq)) hr
 generalize Zj t0 s' ((l.take b).drop a)=R at *;generalize Zn l a b [R]=L at *;generalize ((l.take b).drop a).length=n2 at *;obtain⟨q0,q1,q2,q3⟩:=KN.out W0 aj.out;obtain⟨tk,tx,tc,ts⟩:=t0;obtain⟨rk,rx,rc,rs⟩:=R;simp only[Z9.kind,Z9.text,Z9.cols,Z9.kids] at *;have bH:=hid ax;clear aV hr hb r0 r1 r2 ae hcut aP aA ha aR bg aZ bz aL aT aS av az af ag b1 b2 b3 b4 b5 ay au ax aJ aI aH aG;go_enter Tryz.func65,Tryz.ntmps65
 go_wp2_with fail
 go_region_held3 (fun w'=>w'.cell? ⟨w.heap.size,2,none⟩=some (.int .i64 at_)/\w'.cell? ⟨w.heap.size,4,none⟩=some (.slice (some ⟨g0,o0,none⟩) 1 cn)/\w'.cell? ⟨w.heap.size,5,none⟩=some (.int .i64 slot)/\w'.cell? ⟨g0,o0,none⟩=some (.int .i64 tk)/\w'.cell? ⟨g0,o0+1,none⟩=some (.string tx)/\w'.cell? ⟨g0,o0+2,none⟩=some (.int .i64 tc)/\w'.cell? ⟨g0,o0+3,none⟩=some (.slice A0 ts.length c0)) (go_keep) (first
  |(go_at_call 105;refine(CF.out _ (Xj aj.out)).mono ?_;intro e w5 h5;obtain⟨v5,rfl,aM,aW⟩:∃v,e=.returned (.agg #[.int .i64 rk,.string rx,.int .i64 rc,v])/\Z8 Z6 w5 (NS S W0.heap.size w5) rs v/\Below W0.heap.size W0 w5:=by { obtain⟨v,e1,e2,e3⟩:=XC.ns h5 (b:=W0.heap.size) (Qi _);exact⟨v,e1,e2,Xo e3⟩ };obtain⟨A5,c5,rfl⟩:=aM.form;have bG:=hid aM;have aF:=hid aW;clear aM aW;obtain⟨⟨k0,k1,k2,k3,k4,k5,k6,k7⟩,ak⟩:=KB.out w5 aF.out;have aQ:=hid ak;obtain⟨q0,q1,q2,q3⟩:=KN.out w5 ak;clear ak)
  |(go_at_call 104;refine(CS.out _ W0.heap.size _ (Zy aQ.out _) aj.out.size (RH bH.out bG.out (fun q hq=>Qk (ah.out q hq) aQ.out.size) aF.out.size (Qg _ _) rfl) _ rfl).mono ?_;rintro e w6 ⟨v6,rfl,aU,aC⟩;have bD:=hid aU;have bB:=hid (Zo (Zy aF.out _) aC);have bC:=hid aC.size;have bI:=hid (Zo (Zy aQ.out _) aC);clear aU aC;obtain⟨⟨k0,k1,k2,k3,k4,k5,k6,k7⟩,ak⟩:=KB.out w6 bB.out;obtain⟨q0,q1,q2,q3⟩:=KN.out w6 ak;clear ak))
 all_goals
  go_wp2_with fail
  refine bodyPost_ret (v:=.tuple #[v6,.int .i64 0]) (by simp[results,Tryz.results65,go_sem]) rfl ?_;have aK:=aj.out.size;have hz5:=aF.out.size;exact⟨v6,rfl,bD.out.keep (fun _ _=>rfl) (fun q hq=>by
   rcases hq with (hq|hq)|hq
   ·exact .inl hq
   ·exact .inr ⟨by omega,Qk hq.2 bC.out⟩
   exact .inr ⟨by have:=hq.1;simp at this;omega,hq.2⟩),bI.out⟩
