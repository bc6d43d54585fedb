/- T -/
import Derived.Test.YthpngeboknmllaaGreatQc9ac
import Derived.Test.YthpngeboknmllaaGreatQ5f59
import Derived.Test.YthpngeboknmllaaGreatQb66e
import Derived.Test.YthpngeboknmllaaGreatQeb41
set_option linter.unusedVariables false
set_option linter.unusedSimpArgs false
set_option maxHeartbeats 16000000
set_option maxRecDepth 100000
namespace Go.Proofs.YthpngeboknmllaaGreat
open Go.RowKit
theorem Sn (l:List Z9) (row:List Int) (at_ n slot:Int) (nodes:List Z9) (old text:ByteArray) (A Ar An:Option Addr) (cap lr cr cn:Nat) (w:World) (S:Nat->Prop) (hS:∀q,S q->q<w.heap.size) (hl:Z8 Z6 w S l (.slice A l.length cap)) (hn:Z8 Z6 w S nodes (.slice An nodes.length cn)) (hat:Z4 at_) (hcl:ZQ l<=1000000) (hcn:ZQ nodes<=1000000) :
  Calls Tryz.prog 65 #[.slice A l.length cap,.agg (Zm ⟨2,row,at_,n,nodes,slot,old,text⟩ (.slice Ar lr cr) (.slice An nodes.length cn))] w (Xz S w (ZH l ⟨2,row,at_,n,nodes,slot,old,text⟩)):=by
 have aF:l.length<=1000000:=by have:=Wz l;omega
 have hln:nodes.length<=1000000:=by have:=Wz nodes;omega
 have aa:Y7 ⟨2,row,at_,n,nodes,slot,old,text⟩=(nodes.length:Int):=by simp[Y7]
 have ag:=hid hS;generalize au:w.alloc (.cells (Zm ⟨2,row,at_,n,nodes,slot,old,text⟩ (.slice Ar lr cr) (.slice An nodes.length cn)) 49)=W0;have av:W0.heap.size=w.heap.size+1:=by rw[<-au];simp
 have KB:Hid (∀W,Below W0.heap.size W0 W->Ym W w.heap.size ⟨2,row,at_,n,nodes,slot,old,text⟩ (.slice Ar lr cr) (.slice An nodes.length cn)/\Below w.heap.size w W):=fun W hW=>by
  have h0:Ym W0 w.heap.size ⟨2,row,at_,n,nodes,slot,old,text⟩ (.slice Ar lr cr) (.slice An nodes.length cn):=by rw[<-au];exact Ym.new _ _ _ _ _
  have af:Below w.heap.size w W0:=by rw[<-au];exact ZW _ _
  exact⟨h0.below hW (by omega),af.trans (hW.mono af.size)⟩
 obtain⟨⟨m0,m1,m2,m3,m4,m5,m6,m7⟩,af⟩:=KB.out W0 (Qg _ _);have aj:=hid af;have HZ0:=hid av;have HL:=hid hl;have HN:=hid hn;simp only[Zm] at *;clear hS hl hn af av;rcases Int.lt_or_le at_ 0 with r0|r0
 ·have i0:decide (at_<0)=true:=by simpa using r0
  have hr:ZH l ⟨2,row,at_,n,nodes,slot,old,text⟩=([],2):=if_pos (by rw[aa];simp only;omega);rw[hr];clear hr aa;go_enter Tryz.func65,Tryz.ntmps65
  go_wp2_with fail
  refine bodyPost_ret (v:=.tuple #[.slice none 0 0,.int .i64 2]) (by simp[results,Tryz.results65,go_sem]) rfl ?_;exact⟨_,rfl,Z8.nil_ 0 (Qj _) none,aj.out⟩
 have i0:decide (at_<0)=false:=by simpa using r0
 rcases Int.lt_or_le (l.length:Int) at_ with r1|r1
 ·have i1:decide ((l.length:Int)<at_)=true:=by simpa using r1
  have hr:ZH l ⟨2,row,at_,n,nodes,slot,old,text⟩=([],2):=if_pos (by rw[aa];simp only;omega);rw[hr];clear hr aa;go_enter Tryz.func65,Tryz.ntmps65
  go_wp2_with fail
  refine bodyPost_ret (v:=.tuple #[.slice none 0 0,.int .i64 2]) (by simp[results,Tryz.results65,go_sem]) rfl ?_;exact⟨_,rfl,Z8.nil_ 0 (Qj _) none,aj.out⟩
 have i1:decide ((l.length:Int)<at_)=false:=by simpa using r1
 have w1:IntKind.i64.wrap ((l.length:Int)-at_)=(l.length:Int)-at_:=IntWalk.i64_in _ (by omega);rcases Int.lt_or_le ((l.length:Int)-at_) ((nodes.length:Int)) with r2|r2
 ·have i2:decide ((l.length:Int)-at_<(nodes.length:Int))=true:=by simpa using r2
  have hr:ZH l ⟨2,row,at_,n,nodes,slot,old,text⟩=([],2):=if_pos (by rw[aa];simp only;omega);rw[hr];clear hr aa;go_enter Tryz.func65,Tryz.ntmps65
  go_wp2_with fail
  refine bodyPost_ret (v:=.tuple #[.slice none 0 0,.int .i64 2]) (by simp[results,Tryz.results65,go_sem]) rfl ?_;exact⟨_,rfl,Z8.nil_ 0 (Qj _) none,aj.out⟩
 have i2:decide ((l.length:Int)-at_<(nodes.length:Int))=false:=by simpa using r2
 have w2:IntKind.i64.wrap (at_+(nodes.length:Int))=at_+(nodes.length:Int):=IntWalk.i64_in _ (by omega);have w3:IntKind.i64.wrap at_=at_:=IntWalk.i64_in _ (by omega);have ay:¬(at_<0\/(l.length:Int)<at_\/(l.length:Int)-at_<Y7 ⟨2,row,at_,n,nodes,slot,old,text⟩):=by rw[aa];omega
 obtain⟨a,ha⟩:∃a:Nat,at_=a:=⟨at_.toNat,by omega⟩;obtain⟨b,hb⟩:∃b:Nat,at_+(nodes.length:Int)=b:=⟨(at_+(nodes.length:Int)).toNat,by omega⟩;have aD:l.length<=cap:=by obtain⟨_,_,_,hq,h1,_⟩:=HL.out;cases hq;exact h1
 obtain⟨A1,aC,hcut⟩:=Qt Z6 Tryz.underlying22 Vw A l.length cap at_ (at_+(nodes.length:Int)) a b ha hb (by omega) (by omega) aD;have hr:ZH l ⟨2,row,at_,n,nodes,slot,old,text⟩=(if Wj ((l.take b).drop a) nodes=true then (Zn l a b [],0) else ([],7)):=by
  unfold ZH;rw[if_neg ay,if_neg (by simp),if_pos rfl];simp only[hb];simp only[ha,Int.toNat_natCast]
 rw[hr];have ae:((l.take b).drop a).length=b-a:=by simp;omega
 have ak:=hcut _ _ _ HL.out;rw[<-ae] at ak aC;have CE:Hid (∀W,Below w.heap.size w W->Calls Tryz.prog 33 #[.slice A1 ((l.take b).drop a).length (cap-a),.slice An nodes.length cn] W fun e w'=>e=.returned (.bool (Wj ((l.take b).drop a) nodes))/\Below W.heap.size W w'):=fun W hW=>zNr _ _ W _ _ (TR ak ag.out hW) (TR HN.out ag.out hW)
 have CS:Hid (∀W,Below w.heap.size w W->Calls Tryz.prog 104 #[.slice A l.length cap,.int .i64 at_,.int .i64 (at_+(nodes.length:Int)),.slice none 0 0] W (XL S W (Zn l a b []))):=fun W hW=>zEk l [] at_ (at_+(nodes.length:Int)) a b A none cap 0 W S (fun q hq=>Qk (ag.out q hq) hW.size) ha hb (by omega) (by omega) aF (Qj _) (Yx HL.out ag.out hW) (Z8.nil_ 0 (Qj _) none)
 generalize Wj ((l.take b).drop a) nodes=bS at *;generalize Zn l a b []=L at *;generalize ((l.take b).drop a).length=n2 at *;clear ay hr hb r0 r1 r2 aa hcut ak ae ha;cases bS
 all_goals
  go_enter Tryz.func65,Tryz.ntmps65
  go_wp2_with fail
  go_region_held3 (fun w'=>w'.cell? ⟨w.heap.size,2,none⟩=some (.int .i64 at_)/\w'.cell? ⟨w.heap.size,4,none⟩=some (.slice An nodes.length cn)) (go_keep) (first
   |(go_at_call 33;refine(CE.out _ (Xj aj.out)).mono ?_;rintro e w5 ⟨rfl,aB⟩;have aI:=hid (Xo aB);clear aB;obtain⟨⟨k0,k1,k2,k3,k4,k5,k6,k7⟩,az⟩:=KB.out w5 aI.out;have ah:=hid az;clear az))
  go_wp2_with fail
 ·refine bodyPost_ret (v:=.tuple #[.slice none 0 0,.int .i64 7]) (by simp[results,Tryz.results65,go_sem]) rfl ?_;exact⟨_,rfl,Z8.nil_ 0 (Qj _) none,ah.out⟩
 refine(CS.out _ ah.out).mono ?_;rintro e w6 ⟨v6,rfl,ax,aA⟩;have aG:=hid ax;have aH:=hid aA;clear ax aA
 go_wp2_with fail
 refine bodyPost_ret (v:=.tuple #[v6,.int .i64 0]) (by simp[results,Tryz.results65,go_sem]) rfl ?_;exact⟨v6,rfl,aG.out.keep (fun _ _=>rfl) (fun q hq=>by rcases hq with hq|hq;exact .inl hq;exact .inr ⟨Qf ah.out.size hq.1,hq.2⟩),Zo ah.out aH.out⟩
theorem zO5 (l:List Z9) (op:ZL) (A Ar An:Option Addr) (cap lr cr cn:Nat) (w:World) (S:Nat->Prop) (hS:∀q,S q->q<w.heap.size) (hl:Z8 Z6 w S l (.slice A l.length cap)) (hn:Z8 Z6 w S op.nodes (.slice An op.nodes.length cn)) (af:Z4 op.at_) (ag:Z4 op.n) (ah:op.text.size<=maxLen) (ae:ZQ l<=1000000) (aa:ZQ op.nodes<=1000000) (hf:Zb op=true) :
  Calls Tryz.prog 65 #[.slice A l.length cap,.agg (Zm op (.slice Ar lr cr) (.slice An op.nodes.length cn))] w (Xz S w (ZH l op)):=by
 obtain⟨kind,row,at_,n,nodes,slot,old,text⟩:=op;simp only at *;unfold Zb at hf;simp only at hf;split at hf
 ·rename_i hk;rcases hk with rfl|rfl
  ·exact Sq l row at_ n slot nodes old text A Ar An cap lr cr cn w S hS hl hn af ae aa
  exact Sn l row at_ n slot nodes old text A Ar An cap lr cr cn w S hS hl hn af ae aa
 split at hf
 ·rename_i hk;simp only[Bool.and_eq_true,decide_eq_true_eq] at hf;rcases hk with rfl|rfl
  ·exact Ut l row at_ n slot nodes old text A Ar An cap lr cr cn w S hS hl hn af ae aa hf.1 ag hf.2.1
  exact Sw l row at_ n slot nodes old text A Ar An cap lr cr cn w S hS hl hn af ae aa hf.1 hf.2.1
 split at hf
 ·rename_i hk;subst hk;exact Su l row at_ n slot nodes old text A Ar An cap lr cr cn w S hS hl hn af ae aa ah
 cases hf
def Zw (t:Z9) (op:ZL):Z9×Int :=
 if ZU t=false then (ZN,1)
 else if Zb op=false then (ZN,4)
 else if (ZM t op.row).2≠0 then (ZN,(ZM t op.row).2)
 else if (ZH (ZM t op.row).1.kids op).2≠0 then (ZN,(ZH (ZM t op.row).1.kids op).2)
 else if ZU (ZV t op.row (ZH (ZM t op.row).1.kids op).1)=false then (ZN,6)
 else (ZV t op.row (ZH (ZM t op.row).1.kids op).1,0)
def QP (S:Nat->Prop) (w:World) (r:Z9×Int) (e:Ending) (w':World):Prop :=
 ∃v,e=.returned (.tuple #[.agg #[.int .i64 r.1.kind,.string r.1.text,.int .i64 r.1.cols,v],.int .i64 r.2])/\Z8 Z6 w' (NS S w.heap.size w') r.1.kids v/\Below w.heap.size w w'
structure ZL.Fits (op:ZL):Prop where
 at_:Z4 op.at_
 n:Z4 op.n
 text:op.text.size<=maxLen
 nodes:ZQ op.nodes<=100000
theorem zVp (t:Z9) (op:ZL) (A Ar An:Option Addr) (cap cr cn:Nat) (w:World) (S:Nat->Prop) (hS:∀q,S q->q<w.heap.size) (hv:Z8 Z6 w S t.kids (.slice A t.kids.length cap)) (bn:Zk t) (bK:ZR t<=900000) (aS:op.Fits) (hr:Z0 w (Lt w.heap.size) op.row (.slice Ar op.row.length cr)) (hn:Z8 Z6 w S op.nodes (.slice An op.nodes.length cn)) :
  Calls Tryz.prog 30 #[.agg #[.int .i64 t.kind,.string t.text,.int .i64 t.cols,.slice A t.kids.length cap],.agg (Zm op (.slice Ar op.row.length cr) (.slice An op.nodes.length cn))] w (QP S w (Zw t op)):=by
 have bG:∀{W},Below w.heap.size w W->∀q,S q->q<W.heap.size:=fun hW q hq=>Qk (hS q hq) hW.size
 have C1:Hid (∀W,Below w.heap.size w W->Calls Tryz.prog 29 #[.agg #[.int .i64 t.kind,.string t.text,.int .i64 t.cols,.slice A t.kids.length cap]] W fun e w'=>e=.returned (.bool (ZU t))/\Below W.heap.size W w'):=fun W hW=>QN t A cap W (TR hv hS hW) bn.2.2 (by omega)
 have C2:Hid (∀W,Below w.heap.size w W->Calls Tryz.prog 63 #[.agg (Zm op (.slice Ar op.row.length cr) (.slice An op.nodes.length cn))] W fun e w'=>e=.returned (.bool (Zb op))/\Below W.heap.size W w'):=fun W hW=>zOv op op.row.length Ar An cr cn W (TR hn hS hW) (Qf aS.nodes (by omega))
 have C3:Hid (∀W,Below w.heap.size w W->Calls Tryz.prog 64 #[.agg #[.int .i64 t.kind,.string t.text,.int .i64 t.cols,.slice A t.kids.length cap],.slice Ar op.row.length cr] W (RowP S W (ZM t op.row).1.kind (ZM t op.row).1.text (ZM t op.row).1.cols (ZM t op.row).1.kids (ZM t op.row).2)):=fun W hW=>zF0 t op.row A Ar cap cr W S (bG hW) (Yx hv hS hW) bn.2.2 bK (hr.below hW hW.size)
 have C4:Hid (∀W A' cap',Below w.heap.size w W->Zb op=true->Z8 Z6 W S (ZM t op.row).1.kids (.slice A' (ZM t op.row).1.kids.length cap')->Calls Tryz.prog 65 #[.slice A' (ZM t op.row).1.kids.length cap',.agg (Zm op (.slice Ar op.row.length cr) (.slice An op.nodes.length cn))] W (Xz S W (ZH (ZM t op.row).1.kids op))):=fun W A' cap' hW hf hl =>
  zO5 (ZM t op.row).1.kids op A' Ar An cap' op.row.length cr cn W S (bG hW) hl (Yx hn hS hW) aS.at_ aS.n aS.text (by have:=zE5 t op.row bK;omega) (Qf aS.nodes (by omega)) hf
 have C5:Hid (∀W b A' cap',Below w.heap.size w W->ZU t=true->(ZM t op.row).2=0->(ZH (ZM t op.row).1.kids op).1.length<=1000000->Z8 Z6 W (NS S b W) (ZH (ZM t op.row).1.kids op).1 (.slice A' (ZH (ZM t op.row).1.kids op).1.length cap') ->
   Calls Tryz.prog 66 #[.agg #[.int .i64 t.kind,.string t.text,.int .i64 t.cols,.slice A t.kids.length cap],.slice Ar op.row.length cr,.slice A' (ZH (ZM t op.row).1.kids op).1.length cap'] W (XC (NS S b W) W (ZV t op.row (ZH (ZM t op.row).1.kids op).1))):=fun W b A' cap' hW dm dn dw hl =>
  zPz op.row t (ZH (ZM t op.row).1.kids op).1 A A' Ar cap cap' cr W (NS S b W) (fun q hq=>by
   rcases hq with hq|hq
   ·exact bG hW q hq
   exact hq.2) (zGx dm dn).1 (by omega) bn dw ((Yx hv hS hW).keep (fun _ _=>rfl) (fun q hq=>.inl hq)) hl (hr.below hW hW.size)
 have C6:Hid (∀W A' cap',Z8 Z6 W (Lt W.heap.size) (ZV t op.row (ZH (ZM t op.row).1.kids op).1).kids (.slice A' (ZV t op.row (ZH (ZM t op.row).1.kids op).1).kids.length cap')->ZR (ZV t op.row (ZH (ZM t op.row).1.kids op).1)<=100000000 ->
   Calls Tryz.prog 29 #[.agg #[.int .i64 (ZV t op.row (ZH (ZM t op.row).1.kids op).1).kind,.string (ZV t op.row (ZH (ZM t op.row).1.kids op).1).text,.int .i64 (ZV t op.row (ZH (ZM t op.row).1.kids op).1).cols,.slice A' (ZV t op.row (ZH (ZM t op.row).1.kids op).1).kids.length cap']] W fun e w'=>e=.returned (.bool (ZU (ZV t op.row (ZH (ZM t op.row).1.kids op).1)))/\Below W.heap.size W w'):=fun W A' cap' hl hc =>
  QN _ A' cap' W hl (zKc t op.row _ bn).2.2 (by omega)
 have bJ:Hid (ZU t=true->(ZH (ZM t op.row).1.kids op).1.length<=1000000/\ZR (ZV t op.row (ZH (ZM t op.row).1.kids op).1)<=100000000):=fun h=>by
  have h1:=(Yb h).1;have h2:=zE5 t op.row h1;have h3:=zMa (ZM t op.row).1.kids op;have h4:=Wz (ZH (ZM t op.row).1.kids op).1;have h5:=zLd op.row t (ZH (ZM t op.row).1.kids op).1;have h6:=aS.nodes;constructor<;>omega
 have HA:Hid ((ZU t=false->Zw t op=(ZN,1))/\(ZU t=true->(Zb op=false->Zw t op=(ZN,4))/\(Zb op=true->((ZM t op.row).2≠0->Zw t op=(ZN,(ZM t op.row).2))/\((ZM t op.row).2=0->((ZH (ZM t op.row).1.kids op).2≠0->Zw t op=(ZN,(ZH (ZM t op.row).1.kids op).2)) /\
   ((ZH (ZM t op.row).1.kids op).2=0->(ZU (ZV t op.row (ZH (ZM t op.row).1.kids op).1)=false->Zw t op=(ZN,6))/\(ZU (ZV t op.row (ZH (ZM t op.row).1.kids op).1)=true->Zw t op=(ZV t op.row (ZH (ZM t op.row).1.kids op).1,0))))))):=by
  unfold Zw;refine⟨fun h=>if_pos h,fun h=>?_⟩;rw[if_neg (by simp[h])];refine⟨fun h=>if_pos h,fun h=>?_⟩;rw[if_neg (by simp[h])];refine⟨fun h=>if_pos h,fun h=>?_⟩;rw[if_neg (by simp[h])];refine⟨fun h=>if_pos h,fun h=>?_⟩;rw[if_neg (by simp[h])];exact⟨fun h=>if_pos h,fun h=>if_neg (by simp[h])⟩
 have aK:=hid hS;have dD:Hid ((ZV t op.row (ZH (ZM t op.row).1.kids op).1).kids=(ZV t op.row (ZH (ZM t op.row).1.kids op).1).kids):=rfl;generalize Zw t op=RES at *;generalize ZV t op.row (ZH (ZM t op.row).1.kids op).1=cB at *;generalize ZH (ZM t op.row).1.kids op=CH at *;generalize ZM t op.row=RR at *;generalize dx:ZU t=bV at *;generalize dA:Zb op=bF at *;generalize dz:ZU cB=bO at *;obtain⟨tk,tx,tc,ts⟩:=t;obtain⟨kind,row,at_,n,nodes,slot,old,text⟩:=op;obtain⟨ok,ox,oc,os⟩:=cB;obtain⟨L,e4⟩:=CH;obtain⟨⟨rk,rx,rc,rs⟩,e3⟩:=RR;simp only[Z9.kind,Z9.text,Z9.cols,Z9.kids] at *;generalize bq:((w.alloc (Obj.cells #[.int .i64 tk,.string tx,.int .i64 tc,.slice A ts.length cap] 24)).alloc (Obj.cells (Zm ⟨kind,row,at_,n,nodes,slot,old,text⟩ (.slice Ar row.length cr) (.slice An nodes.length cn)) 49)).alloc (Obj.cells #[.int .i64 0,.string ⟨#[]⟩,.int .i64 0,.slice none 0 0] 24)=W0;have bY:W0.heap.size=w.heap.size+1+1+1:=by rw[<-bq];simp
 have bH:Below w.heap.size w W0:=by rw[<-bq];exact Zy (Zy (ZW _ _) _) _
 have bZ:ZI W0 w.heap.size tk tx tc (.slice A ts.length cap):=by
  rw[<-bq];exact((ZI.new w _ _ _ _ _).below (ZW _ _) (by simp)).below (ZW _ _) (by simp;omega)
 have cu:Ym W0 (w.heap.size+1) ⟨kind,row,at_,n,nodes,slot,old,text⟩ (.slice Ar row.length cr) (.slice An nodes.length cn):=by
  rw[<-bq];have h:=(Ym.new (w.alloc (Obj.cells #[.int .i64 tk,.string tx,.int .i64 tc,.slice A ts.length cap] 24)) ⟨kind,row,at_,n,nodes,slot,old,text⟩ (.slice Ar row.length cr) (.slice An nodes.length cn) 49).below (ZW _ (Obj.cells #[.int .i64 0,.string ⟨#[]⟩,.int .i64 0,.slice none 0 0] 24)) (by simp);simpa using h
 have bL:ZI W0 (w.heap.size+1+1) 0 ⟨#[]⟩ 0 (.slice none 0 0)/\Yy W0 (w.heap.size+1+1):=by
  rw[<-bq];have h:=ZI.new ((w.alloc (Obj.cells #[.int .i64 tk,.string tx,.int .i64 tc,.slice A ts.length cap] 24)).alloc (Obj.cells (Zm ⟨kind,row,at_,n,nodes,slot,old,text⟩ (.slice Ar row.length cr) (.slice An nodes.length cn)) 49)) 0 ⟨#[]⟩ 0 (.slice none 0 0) 24;have h2:=Yy.new ((w.alloc (Obj.cells #[.int .i64 tk,.string tx,.int .i64 tc,.slice A ts.length cap] 24)).alloc (Obj.cells (Zm ⟨kind,row,at_,n,nodes,slot,old,text⟩ (.slice Ar row.length cr) (.slice An nodes.length cn)) 49)) #[.int .i64 0,.string ⟨#[]⟩,.int .i64 0,.slice none 0 0] 24;exact⟨by simpa using h,by simpa using h2⟩
 have KB:Hid (∀W,Below W0.heap.size W0 W->ZI W w.heap.size tk tx tc (.slice A ts.length cap)/\Ym W (w.heap.size+1) ⟨kind,row,at_,n,nodes,slot,old,text⟩ (.slice Ar row.length cr) (.slice An nodes.length cn)/\ZI W (w.heap.size+1+1) 0 ⟨#[]⟩ 0 (.slice none 0 0)/\Yy W (w.heap.size+1+1)/\Below w.heap.size w W):=fun W hW =>
  ⟨bZ.below hW (by omega),cu.below hW (by omega),bL.1.below hW (by omega),bL.2.below hW (by omega),bH.trans (hW.mono bH.size)⟩
 have cK:=hid bY;simp only[Zm] at *;obtain⟨di,dh,aQ,df,bM⟩:=KB.out W0 (Qg _ _);have bg:=hid bH;clear hv hn hr bn aS bK hS bG bY bH bZ cu bL aQ df bM dx dA dz dD;obtain⟨m0,m1,m2,m3⟩:=di;obtain⟨o0,o1,o2,o3,o4,o5,o6,o7⟩:=dh;cases bV
 ·go_enter Tryz.func30,Tryz.ntmps30
  go_wp2_with fail
  refine(C1.out _ bg.out).mono ?_;rintro e w1 ⟨rfl,ah⟩;have ag:=hid ah;clear ah m0 m1 m2 m3 o0 o1 o2 o3 o4 o5 o6 o7;obtain⟨⟨m0,m1,m2,m3⟩,⟨o0,o1,o2,o3,o4,o5,o6,o7⟩,aa,⟨f0,f1,f2,f3⟩,ae⟩:=KB.out w1 ag.out;have af:=hid aa;obtain⟨r0,r1,r2,r3⟩:=aa;have aM:=hid ae;clear ae
  go_wp2_with fail
  generalize hZ:((((w1.setCell _ (.int .i64 0)).setCell _ (.string ⟨#[]⟩)).setCell _ (.int .i64 0)).setCell _ (.slice none 0 0))=Z;obtain⟨⟨e0,e1,e2,ak⟩,aC,aj,aD,_,_⟩:=Xy (o:=0) af.out.1 af.out.2.1 af.out.2.2.1 af.out.2.2.2 _ _ _ _ hZ.symm;simp only[Nat.zero_add] at e1 e2 ak;have aI:=hid (aj w.heap.size w (by omega) aM.out);clear hZ aC aj aD;refine bodyPost_ret (v:=.tuple #[.agg #[.int .i64 0,.string ⟨#[]⟩,.int .i64 0,.slice none 0 0],.int .i64 1]) (by simp[results,Tryz.results30,go_sem,e0,e1,e2,ak]) rfl ?_;rw[HA.out.1 (by trivial)];exact⟨_,rfl,Z8.nil_ 0 (Qj _) none,aI.out⟩
 cases bF
 ·go_enter Tryz.func30,Tryz.ntmps30
  go_wp2_with fail
  refine(C1.out _ bg.out).mono ?_;rintro e w1 ⟨rfl,ah⟩;have ag:=hid ah;clear ah m0 m1 m2 m3 o0 o1 o2 o3 o4 o5 o6 o7;obtain⟨⟨m0,m1,m2,m3⟩,⟨o0,o1,o2,o3,o4,o5,o6,o7⟩,aa,⟨f0,f1,f2,f3⟩,ae⟩:=KB.out w1 ag.out;have af:=hid aa;obtain⟨r0,r1,r2,r3⟩:=aa;have aM:=hid ae;clear ae
  go_wp2_with fail
  refine(C2.out _ aM.out).mono ?_;rintro e w2 ⟨rfl,aA⟩;have au:=hid (ag.out.trans (aA.mono ag.out.size));clear aA;clear m0 m1 m2 m3 o0 o1 o2 o3 o4 o5 o6 o7 r0 r1 r2 r3 f0 f1 f2 f3 af;obtain⟨⟨m0,m1,m2,m3⟩,⟨o0,o1,o2,o3,o4,o5,o6,o7⟩,aa,⟨f0,f1,f2,f3⟩,ae⟩:=KB.out w2 au.out;have af:=hid aa;obtain⟨r0,r1,r2,r3⟩:=aa;have aB:=hid ae;clear ae
  go_wp2_with fail
  generalize hZ:((((w2.setCell _ (.int .i64 0)).setCell _ (.string ⟨#[]⟩)).setCell _ (.int .i64 0)).setCell _ (.slice none 0 0))=Z;obtain⟨⟨e0,e1,e2,ak⟩,aC,aj,aD,_,_⟩:=Xy (o:=0) af.out.1 af.out.2.1 af.out.2.2.1 af.out.2.2.2 _ _ _ _ hZ.symm;simp only[Nat.zero_add] at e1 e2 ak;have aI:=hid (aj w.heap.size w (by omega) aB.out);clear hZ aC aj aD;refine bodyPost_ret (v:=.tuple #[.agg #[.int .i64 0,.string ⟨#[]⟩,.int .i64 0,.slice none 0 0],.int .i64 4]) (by simp[results,Tryz.results30,go_sem,e0,e1,e2,ak]) rfl ?_;rw[(HA.out.2 (by trivial)).1 (by trivial)];exact⟨_,rfl,Z8.nil_ 0 (Qj _) none,aI.out⟩
 rcases Decidable.em (e3=0) with bD|bD
 case inr =>
  have dF:=hid bD;have i0:(e3 != 0)=true:=by simpa using bD
  go_enter Tryz.func30,Tryz.ntmps30
  go_wp2_with fail
  refine(C1.out _ bg.out).mono ?_;rintro e w1 ⟨rfl,ah⟩;have ag:=hid ah;clear ah m0 m1 m2 m3 o0 o1 o2 o3 o4 o5 o6 o7;obtain⟨⟨m0,m1,m2,m3⟩,⟨o0,o1,o2,o3,o4,o5,o6,o7⟩,aa,⟨f0,f1,f2,f3⟩,ae⟩:=KB.out w1 ag.out;have af:=hid aa;obtain⟨r0,r1,r2,r3⟩:=aa;have aM:=hid ae;clear ae
  go_wp2_with fail
  refine(C2.out _ aM.out).mono ?_;rintro e w2 ⟨rfl,aA⟩;have au:=hid (ag.out.trans (aA.mono ag.out.size));clear aA;clear m0 m1 m2 m3 o0 o1 o2 o3 o4 o5 o6 o7 r0 r1 r2 r3 f0 f1 f2 f3 af;obtain⟨⟨m0,m1,m2,m3⟩,⟨o0,o1,o2,o3,o4,o5,o6,o7⟩,aa,⟨f0,f1,f2,f3⟩,ae⟩:=KB.out w2 au.out;have af:=hid aa;obtain⟨r0,r1,r2,r3⟩:=aa;have aB:=hid ae;clear ae
  go_wp2_with fail
  refine(C3.out _ aB.out).mono ?_;intro e w3 h3;obtain⟨v3,rfl,av,ax⟩:∃v,e=.returned (.tuple #[.agg #[.int .i64 rk,.string rx,.int .i64 rc,v],.int .i64 e3])/\Z8 Z6 w3 S rs v/\Below w2.heap.size w2 w3:=h3;obtain⟨A3,c3,rfl⟩:=av.form;have aJ:=hid (au.out.trans (ax.mono au.out.size));have aU:=hid av;have aX:=hid (Zo aB.out ax);clear ax av;clear m0 m1 m2 m3 o0 o1 o2 o3 o4 o5 o6 o7 r0 r1 r2 r3 f0 f1 f2 f3 af
  go_upto_region 6 with fail
  obtain⟨X,hX⟩:∃X,w3.alloc (Obj.cells #[.int .i64 rk,.string rx,.int .i64 rc,.slice A3 rs.length c3] 24)=X:=⟨_,rfl⟩;rw[hX];have ay:Below w3.heap.size w3 X:=by rw[<-hX];exact ZW _ _
  have aQ:X.cell? ⟨w3.heap.size,3,none⟩=some (.slice A3 rs.length c3):=by rw[<-hX];exact ZT _ _ _ _ _ rfl
  have az:=hid (aJ.out.trans (ay.mono aJ.out.size));have aZ:Hid (Z8 Z6 X S rs (.slice A3 rs.length c3)):=aU.out.keep (fun q hq=>ay.cell (Qk (aK.out _ hq) aX.out.size)) (fun _ h=>h);clear hX ay;obtain⟨⟨m0,m1,m2,m3⟩,⟨o0,o1,o2,o3,o4,o5,o6,o7⟩,aa,⟨f0,f1,f2,f3⟩,ae⟩:=KB.out X az.out;have af:=hid aa;obtain⟨r0,r1,r2,r3⟩:=aa;have aV:=hid ae;clear ae
  go_wp2_with fail
  generalize hZ:((((X.setCell _ (.int .i64 0)).setCell _ (.string ⟨#[]⟩)).setCell _ (.int .i64 0)).setCell _ (.slice none 0 0))=Z;obtain⟨⟨e0,e1,e2,ak⟩,aC,aj,aD,_,_⟩:=Xy (o:=0) af.out.1 af.out.2.1 af.out.2.2.1 af.out.2.2.2 _ _ _ _ hZ.symm;simp only[Nat.zero_add] at e1 e2 ak;have aI:=hid (aj w.heap.size w (by omega) aV.out);clear hZ aC aj aD;refine bodyPost_ret (v:=.tuple #[.agg #[.int .i64 0,.string ⟨#[]⟩,.int .i64 0,.slice none 0 0],.int .i64 e3]) (by simp[results,Tryz.results30,go_sem,e0,e1,e2,ak]) rfl ?_;rw[((HA.out.2 (by trivial)).2 (by trivial)).1 dF.out];exact⟨_,rfl,Z8.nil_ 0 (Qj _) none,aI.out⟩
 subst bD;rcases Decidable.em (e4=0) with bC|bC
 case inr =>
  have dE:=hid bC;have i0:(e4 != 0)=true:=by simpa using bC
  go_enter Tryz.func30,Tryz.ntmps30
  go_wp2_with fail
  refine(C1.out _ bg.out).mono ?_;rintro e w1 ⟨rfl,ah⟩;have ag:=hid ah;clear ah m0 m1 m2 m3 o0 o1 o2 o3 o4 o5 o6 o7;obtain⟨⟨m0,m1,m2,m3⟩,⟨o0,o1,o2,o3,o4,o5,o6,o7⟩,aa,⟨f0,f1,f2,f3⟩,ae⟩:=KB.out w1 ag.out;have af:=hid aa;obtain⟨r0,r1,r2,r3⟩:=aa;have aM:=hid ae;clear ae
  go_wp2_with fail
  refine(C2.out _ aM.out).mono ?_;rintro e w2 ⟨rfl,aA⟩;have au:=hid (ag.out.trans (aA.mono ag.out.size));clear aA;clear m0 m1 m2 m3 o0 o1 o2 o3 o4 o5 o6 o7 r0 r1 r2 r3 f0 f1 f2 f3 af;obtain⟨⟨m0,m1,m2,m3⟩,⟨o0,o1,o2,o3,o4,o5,o6,o7⟩,aa,⟨f0,f1,f2,f3⟩,ae⟩:=KB.out w2 au.out;have af:=hid aa;obtain⟨r0,r1,r2,r3⟩:=aa;have aB:=hid ae;clear ae
  go_wp2_with fail
  refine(C3.out _ aB.out).mono ?_;intro e w3 h3;obtain⟨v3,rfl,av,ax⟩:∃v,e=.returned (.tuple #[.agg #[.int .i64 rk,.string rx,.int .i64 rc,v],.int .i64 0])/\Z8 Z6 w3 S rs v/\Below w2.heap.size w2 w3:=h3;obtain⟨A3,c3,rfl⟩:=av.form;have aJ:=hid (au.out.trans (ax.mono au.out.size));have aU:=hid av;have aX:=hid (Zo aB.out ax);clear ax av;clear m0 m1 m2 m3 o0 o1 o2 o3 o4 o5 o6 o7 r0 r1 r2 r3 f0 f1 f2 f3 af
  go_upto_region 6 with fail
  obtain⟨X,hX⟩:∃X,w3.alloc (Obj.cells #[.int .i64 rk,.string rx,.int .i64 rc,.slice A3 rs.length c3] 24)=X:=⟨_,rfl⟩;rw[hX];have ay:Below w3.heap.size w3 X:=by rw[<-hX];exact ZW _ _
  have aQ:X.cell? ⟨w3.heap.size,3,none⟩=some (.slice A3 rs.length c3):=by rw[<-hX];exact ZT _ _ _ _ _ rfl
  have az:=hid (aJ.out.trans (ay.mono aJ.out.size));have aZ:Hid (Z8 Z6 X S rs (.slice A3 rs.length c3)):=aU.out.keep (fun q hq=>ay.cell (Qk (aK.out _ hq) aX.out.size)) (fun _ h=>h);clear hX ay;obtain⟨⟨m0,m1,m2,m3⟩,⟨o0,o1,o2,o3,o4,o5,o6,o7⟩,aa,⟨f0,f1,f2,f3⟩,ae⟩:=KB.out X az.out;have af:=hid aa;obtain⟨r0,r1,r2,r3⟩:=aa;have aV:=hid ae;clear ae
  go_wp2_with fail
  refine(C4.out _ _ _ aV.out (by trivial) aZ.out).mono ?_;intro e w4 h4;obtain⟨v4,rfl,aF,aH⟩:∃v,e=.returned (.tuple #[v,.int .i64 e4])/\Z8 Z6 w4 (NS S X.heap.size w4) L v/\Below X.heap.size X w4:=h4;obtain⟨A4,c4,rfl⟩:=aF.form;have aP:=hid (az.out.trans (aH.mono az.out.size));have bI:=hid aF;have aY:=hid aH.size;clear aH aF aQ;clear m0 m1 m2 m3 o0 o1 o2 o3 o4 o5 o6 o7 r0 r1 r2 r3 f0 f1 f2 f3 af;obtain⟨⟨m0,m1,m2,m3⟩,⟨o0,o1,o2,o3,o4,o5,o6,o7⟩,aa,⟨f0,f1,f2,f3⟩,ae⟩:=KB.out w4 aP.out;have af:=hid aa;obtain⟨r0,r1,r2,r3⟩:=aa;have aW:=hid ae;clear ae
  go_wp2_with fail
  generalize hZ:((((w4.setCell _ (.int .i64 0)).setCell _ (.string ⟨#[]⟩)).setCell _ (.int .i64 0)).setCell _ (.slice none 0 0))=Z;obtain⟨⟨e0,e1,e2,ak⟩,aC,aj,aD,_,_⟩:=Xy (o:=0) af.out.1 af.out.2.1 af.out.2.2.1 af.out.2.2.2 _ _ _ _ hZ.symm;simp only[Nat.zero_add] at e1 e2 ak;have aI:=hid (aj w.heap.size w (by omega) aW.out);clear hZ aC aj aD;refine bodyPost_ret (v:=.tuple #[.agg #[.int .i64 0,.string ⟨#[]⟩,.int .i64 0,.slice none 0 0],.int .i64 e4]) (by simp[results,Tryz.results30,go_sem,e0,e1,e2,ak]) rfl ?_;rw[(((HA.out.2 (by trivial)).2 (by trivial)).2 (by trivial)).1 dE.out];exact⟨_,rfl,Z8.nil_ 0 (Qj _) none,aI.out⟩
 subst bC;cases bO
 ·go_enter Tryz.func30,Tryz.ntmps30
  go_wp2_with fail
  refine(C1.out _ bg.out).mono ?_;rintro e w1 ⟨rfl,ah⟩;have ag:=hid ah;clear ah m0 m1 m2 m3 o0 o1 o2 o3 o4 o5 o6 o7;obtain⟨⟨m0,m1,m2,m3⟩,⟨o0,o1,o2,o3,o4,o5,o6,o7⟩,aa,⟨f0,f1,f2,f3⟩,ae⟩:=KB.out w1 ag.out;have af:=hid aa;obtain⟨r0,r1,r2,r3⟩:=aa;have aM:=hid ae;clear ae
  go_wp2_with fail
  refine(C2.out _ aM.out).mono ?_;rintro e w2 ⟨rfl,aA⟩;have au:=hid (ag.out.trans (aA.mono ag.out.size));clear aA;clear m0 m1 m2 m3 o0 o1 o2 o3 o4 o5 o6 o7 r0 r1 r2 r3 f0 f1 f2 f3 af;obtain⟨⟨m0,m1,m2,m3⟩,⟨o0,o1,o2,o3,o4,o5,o6,o7⟩,aa,⟨f0,f1,f2,f3⟩,ae⟩:=KB.out w2 au.out;have af:=hid aa;obtain⟨r0,r1,r2,r3⟩:=aa;have aB:=hid ae;clear ae
  go_wp2_with fail
  refine(C3.out _ aB.out).mono ?_;intro e w3 h3;obtain⟨v3,rfl,av,ax⟩:∃v,e=.returned (.tuple #[.agg #[.int .i64 rk,.string rx,.int .i64 rc,v],.int .i64 0])/\Z8 Z6 w3 S rs v/\Below w2.heap.size w2 w3:=h3;obtain⟨A3,c3,rfl⟩:=av.form;have aJ:=hid (au.out.trans (ax.mono au.out.size));have aU:=hid av;have aX:=hid (Zo aB.out ax);clear ax av;clear m0 m1 m2 m3 o0 o1 o2 o3 o4 o5 o6 o7 r0 r1 r2 r3 f0 f1 f2 f3 af
  go_upto_region 6 with fail
  obtain⟨X,hX⟩:∃X,w3.alloc (Obj.cells #[.int .i64 rk,.string rx,.int .i64 rc,.slice A3 rs.length c3] 24)=X:=⟨_,rfl⟩;rw[hX];have ay:Below w3.heap.size w3 X:=by rw[<-hX];exact ZW _ _
  have aQ:X.cell? ⟨w3.heap.size,3,none⟩=some (.slice A3 rs.length c3):=by rw[<-hX];exact ZT _ _ _ _ _ rfl
  have az:=hid (aJ.out.trans (ay.mono aJ.out.size));have aZ:Hid (Z8 Z6 X S rs (.slice A3 rs.length c3)):=aU.out.keep (fun q hq=>ay.cell (Qk (aK.out _ hq) aX.out.size)) (fun _ h=>h);clear hX ay;obtain⟨⟨m0,m1,m2,m3⟩,⟨o0,o1,o2,o3,o4,o5,o6,o7⟩,aa,⟨f0,f1,f2,f3⟩,ae⟩:=KB.out X az.out;have af:=hid aa;obtain⟨r0,r1,r2,r3⟩:=aa;have aV:=hid ae;clear ae
  go_wp2_with fail
  refine(C4.out _ _ _ aV.out (by trivial) aZ.out).mono ?_;intro e w4 h4;obtain⟨v4,rfl,aF,aH⟩:∃v,e=.returned (.tuple #[v,.int .i64 0])/\Z8 Z6 w4 (NS S X.heap.size w4) L v/\Below X.heap.size X w4:=h4;obtain⟨A4,c4,rfl⟩:=aF.form;have aP:=hid (az.out.trans (aH.mono az.out.size));have bI:=hid aF;have aY:=hid aH.size;clear aH aF aQ;clear m0 m1 m2 m3 o0 o1 o2 o3 o4 o5 o6 o7 r0 r1 r2 r3 f0 f1 f2 f3 af;obtain⟨⟨m0,m1,m2,m3⟩,⟨o0,o1,o2,o3,o4,o5,o6,o7⟩,aa,⟨f0,f1,f2,f3⟩,ae⟩:=KB.out w4 aP.out;have af:=hid aa;obtain⟨r0,r1,r2,r3⟩:=aa;have aW:=hid ae;clear ae
  go_wp2_with fail
  refine(C5.out _ X.heap.size _ _ aW.out (by trivial) (by trivial) (bJ.out (by trivial)).1 bI.out).mono ?_;intro e w5 h5;obtain⟨v5,rfl,aR,aN⟩:∃v,e=.returned (.agg #[.int .i64 ok,.string ox,.int .i64 oc,v])/\Z8 Z6 w5 (NS S X.heap.size w5) os v/\Below w4.heap.size w4 w5:=XC.ns2 h5 aY.out;obtain⟨A5,c5,rfl⟩:=aR.form;have bA:=hid (aP.out.trans (aN.mono aP.out.size));have bQ:=hid aR;have bN:=hid (Qf aY.out aN.size);have aL:=hid (Zo aW.out aN);clear aN aR;clear m0 m1 m2 m3 o0 o1 o2 o3 o4 o5 o6 o7 r0 r1 r2 r3 f0 f1 f2 f3 af
  go_upto_region 12 with fail
  obtain⟨Y,hY⟩:∃Y,w5.alloc (Obj.cells #[.int .i64 ok,.string ox,.int .i64 oc,.slice A5 os.length c5] 24)=Y:=⟨_,rfl⟩;rw[hY];have aO:Below w5.heap.size w5 Y:=by rw[<-hY];exact ZW _ _
  have bz:Hid (ZI Y w5.heap.size ok ox oc (.slice A5 os.length c5)):=by show ZI _ _ _ _ _ _;rw[<-hY];exact ZI.new _ _ _ _ _ _
  have bu:Hid (w5.heap.size<Y.heap.size):=by show _<_;rw[<-hY];simp
  have aT:=hid (bA.out.trans (aO.mono bA.out.size));have bB:Hid (Z8 Z6 Y (NS S X.heap.size Y) os (.slice A5 os.length c5)):=NS.keep bQ.out (fun q hq=>Qk (aK.out _ hq) aL.out.size) aO;have bR:Hid (Z8 Z6 Y (Lt Y.heap.size) os (.slice A5 os.length c5)):=Ro bB.out aK.out (Qf aL.out.size aO.size);obtain⟨n0,n1,n2,n3⟩:=bz.out;clear hY aO;obtain⟨⟨m0,m1,m2,m3⟩,⟨o0,o1,o2,o3,o4,o5,o6,o7⟩,aa,⟨f0,f1,f2,f3⟩,ae⟩:=KB.out Y aT.out;have af:=hid aa;obtain⟨r0,r1,r2,r3⟩:=aa;have bU:=hid ae;clear ae
  go_wp2_with fail
  refine(C6.out _ _ _ bR.out (bJ.out (by trivial)).2).mono ?_;rintro e w6 ⟨rfl,aG⟩;have bP:=hid (aT.out.trans (aG.mono aT.out.size));obtain⟨n0,n1,n2,n3⟩:=bz.out.below aG bu.out;have cZ:=hid (NS.keep bB.out (fun q hq=>Qk (aK.out _ hq) bU.out.size) aG);have cO:Hid (X.heap.size<=w6.heap.size/\w.heap.size+1+1+1<=X.heap.size):=⟨by have:=bN.out;have:=bu.out;have:=aG.size;omega,by have:=az.out.size;have:=cK.out;omega⟩;clear aG;clear m0 m1 m2 m3 o0 o1 o2 o3 o4 o5 o6 o7 r0 r1 r2 r3 f0 f1 f2 f3 af;obtain⟨⟨m0,m1,m2,m3⟩,⟨o0,o1,o2,o3,o4,o5,o6,o7⟩,aa,⟨f0,f1,f2,f3⟩,ae⟩:=KB.out w6 bP.out;have af:=hid aa;obtain⟨r0,r1,r2,r3⟩:=aa;have bW:=hid ae;clear ae
  go_wp2_with fail
  generalize hZ:((((w6.setCell _ (.int .i64 0)).setCell _ (.string ⟨#[]⟩)).setCell _ (.int .i64 0)).setCell _ (.slice none 0 0))=Z;obtain⟨⟨e0,e1,e2,ak⟩,aC,aj,aD,_,_⟩:=Xy (o:=0) af.out.1 af.out.2.1 af.out.2.2.1 af.out.2.2.2 _ _ _ _ hZ.symm;simp only[Nat.zero_add] at e1 e2 ak;have aI:=hid (aj w.heap.size w (by omega) bW.out);clear hZ aC aj aD;refine bodyPost_ret (v:=.tuple #[.agg #[.int .i64 0,.string ⟨#[]⟩,.int .i64 0,.slice none 0 0],.int .i64 6]) (by simp[results,Tryz.results30,go_sem,e0,e1,e2,ak]) rfl ?_;rw[((((HA.out.2 (by trivial)).2 (by trivial)).2 (by trivial)).2 (by trivial)).1 (by trivial)];exact⟨_,rfl,Z8.nil_ 0 (Qj _) none,aI.out⟩
 go_enter Tryz.func30,Tryz.ntmps30
 go_wp2_with fail
 refine(C1.out _ bg.out).mono ?_;rintro e w1 ⟨rfl,ah⟩;have ag:=hid ah;clear ah m0 m1 m2 m3 o0 o1 o2 o3 o4 o5 o6 o7;obtain⟨⟨m0,m1,m2,m3⟩,⟨o0,o1,o2,o3,o4,o5,o6,o7⟩,aa,⟨f0,f1,f2,f3⟩,ae⟩:=KB.out w1 ag.out;have af:=hid aa;obtain⟨r0,r1,r2,r3⟩:=aa;have aM:=hid ae;clear ae
 go_wp2_with fail
 refine(C2.out _ aM.out).mono ?_;rintro e w2 ⟨rfl,aA⟩;have au:=hid (ag.out.trans (aA.mono ag.out.size));clear aA;clear m0 m1 m2 m3 o0 o1 o2 o3 o4 o5 o6 o7 r0 r1 r2 r3 f0 f1 f2 f3 af;obtain⟨⟨m0,m1,m2,m3⟩,⟨o0,o1,o2,o3,o4,o5,o6,o7⟩,aa,⟨f0,f1,f2,f3⟩,ae⟩:=KB.out w2 au.out;have af:=hid aa;obtain⟨r0,r1,r2,r3⟩:=aa;have aB:=hid ae;clear ae
 go_wp2_with fail
 refine(C3.out _ aB.out).mono ?_;intro e w3 h3;obtain⟨v3,rfl,av,ax⟩:∃v,e=.returned (.tuple #[.agg #[.int .i64 rk,.string rx,.int .i64 rc,v],.int .i64 0])/\Z8 Z6 w3 S rs v/\Below w2.heap.size w2 w3:=h3;obtain⟨A3,c3,rfl⟩:=av.form;have aJ:=hid (au.out.trans (ax.mono au.out.size));have aU:=hid av;have aX:=hid (Zo aB.out ax);clear ax av;clear m0 m1 m2 m3 o0 o1 o2 o3 o4 o5 o6 o7 r0 r1 r2 r3 f0 f1 f2 f3 af
 go_upto_region 6 with fail
 obtain⟨X,hX⟩:∃X,w3.alloc (Obj.cells #[.int .i64 rk,.string rx,.int .i64 rc,.slice A3 rs.length c3] 24)=X:=⟨_,rfl⟩;rw[hX];have ay:Below w3.heap.size w3 X:=by rw[<-hX];exact ZW _ _
 have aQ:X.cell? ⟨w3.heap.size,3,none⟩=some (.slice A3 rs.length c3):=by rw[<-hX];exact ZT _ _ _ _ _ rfl
 have az:=hid (aJ.out.trans (ay.mono aJ.out.size));have aZ:Hid (Z8 Z6 X S rs (.slice A3 rs.length c3)):=aU.out.keep (fun q hq=>ay.cell (Qk (aK.out _ hq) aX.out.size)) (fun _ h=>h);clear hX ay;obtain⟨⟨m0,m1,m2,m3⟩,⟨o0,o1,o2,o3,o4,o5,o6,o7⟩,aa,⟨f0,f1,f2,f3⟩,ae⟩:=KB.out X az.out;have af:=hid aa;obtain⟨r0,r1,r2,r3⟩:=aa;have aV:=hid ae;clear ae
 go_wp2_with fail
 refine(C4.out _ _ _ aV.out (by trivial) aZ.out).mono ?_;intro e w4 h4;obtain⟨v4,rfl,aF,aH⟩:∃v,e=.returned (.tuple #[v,.int .i64 0])/\Z8 Z6 w4 (NS S X.heap.size w4) L v/\Below X.heap.size X w4:=h4;obtain⟨A4,c4,rfl⟩:=aF.form;have aP:=hid (az.out.trans (aH.mono az.out.size));have bI:=hid aF;have aY:=hid aH.size;clear aH aF aQ;clear m0 m1 m2 m3 o0 o1 o2 o3 o4 o5 o6 o7 r0 r1 r2 r3 f0 f1 f2 f3 af;obtain⟨⟨m0,m1,m2,m3⟩,⟨o0,o1,o2,o3,o4,o5,o6,o7⟩,aa,⟨f0,f1,f2,f3⟩,ae⟩:=KB.out w4 aP.out;have af:=hid aa;obtain⟨r0,r1,r2,r3⟩:=aa;have aW:=hid ae;clear ae
 go_wp2_with fail
 refine(C5.out _ X.heap.size _ _ aW.out (by trivial) (by trivial) (bJ.out (by trivial)).1 bI.out).mono ?_;intro e w5 h5;obtain⟨v5,rfl,aR,aN⟩:∃v,e=.returned (.agg #[.int .i64 ok,.string ox,.int .i64 oc,v])/\Z8 Z6 w5 (NS S X.heap.size w5) os v/\Below w4.heap.size w4 w5:=XC.ns2 h5 aY.out;obtain⟨A5,c5,rfl⟩:=aR.form;have bA:=hid (aP.out.trans (aN.mono aP.out.size));have bQ:=hid aR;have bN:=hid (Qf aY.out aN.size);have aL:=hid (Zo aW.out aN);clear aN aR;clear m0 m1 m2 m3 o0 o1 o2 o3 o4 o5 o6 o7 r0 r1 r2 r3 f0 f1 f2 f3 af
 go_upto_region 12 with fail
 obtain⟨Y,hY⟩:∃Y,w5.alloc (Obj.cells #[.int .i64 ok,.string ox,.int .i64 oc,.slice A5 os.length c5] 24)=Y:=⟨_,rfl⟩;rw[hY];have aO:Below w5.heap.size w5 Y:=by rw[<-hY];exact ZW _ _
 have bz:Hid (ZI Y w5.heap.size ok ox oc (.slice A5 os.length c5)):=by show ZI _ _ _ _ _ _;rw[<-hY];exact ZI.new _ _ _ _ _ _
 have bu:Hid (w5.heap.size<Y.heap.size):=by show _<_;rw[<-hY];simp
 have aT:=hid (bA.out.trans (aO.mono bA.out.size));have bB:Hid (Z8 Z6 Y (NS S X.heap.size Y) os (.slice A5 os.length c5)):=NS.keep bQ.out (fun q hq=>Qk (aK.out _ hq) aL.out.size) aO;have bR:Hid (Z8 Z6 Y (Lt Y.heap.size) os (.slice A5 os.length c5)):=Ro bB.out aK.out (Qf aL.out.size aO.size);obtain⟨n0,n1,n2,n3⟩:=bz.out;clear hY aO;obtain⟨⟨m0,m1,m2,m3⟩,⟨o0,o1,o2,o3,o4,o5,o6,o7⟩,aa,⟨f0,f1,f2,f3⟩,ae⟩:=KB.out Y aT.out;have af:=hid aa;obtain⟨r0,r1,r2,r3⟩:=aa;have bU:=hid ae;clear ae
 go_wp2_with fail
 refine(C6.out _ _ _ bR.out (bJ.out (by trivial)).2).mono ?_;rintro e w6 ⟨rfl,aG⟩;have bP:=hid (aT.out.trans (aG.mono aT.out.size));obtain⟨n0,n1,n2,n3⟩:=bz.out.below aG bu.out;have cZ:=hid (NS.keep bB.out (fun q hq=>Qk (aK.out _ hq) bU.out.size) aG);have cO:Hid (X.heap.size<=w6.heap.size/\w.heap.size+1+1+1<=X.heap.size):=⟨by have:=bN.out;have:=bu.out;have:=aG.size;omega,by have:=az.out.size;have:=cK.out;omega⟩;clear aG;clear m0 m1 m2 m3 o0 o1 o2 o3 o4 o5 o6 o7 r0 r1 r2 r3 f0 f1 f2 f3 af;obtain⟨⟨m0,m1,m2,m3⟩,⟨o0,o1,o2,o3,o4,o5,o6,o7⟩,aa,⟨f0,f1,f2,f3⟩,ae⟩:=KB.out w6 bP.out;have af:=hid aa;obtain⟨r0,r1,r2,r3⟩:=aa;have bW:=hid ae;clear ae
 go_wp2_with fail
 generalize hZ:((((w6.setCell _ (.int .i64 ok)).setCell _ (.string ox)).setCell _ (.int .i64 oc)).setCell _ (.slice A5 os.length c5))=Z;obtain⟨⟨e0,e1,e2,ak⟩,aC,aj,aD,_,_⟩:=Xy (o:=0) af.out.1 af.out.2.1 af.out.2.2.1 af.out.2.2.2 _ _ _ _ hZ.symm;simp only[Nat.zero_add] at e1 e2 ak;have aI:=hid (aj w.heap.size w (by omega) bW.out);have dC:=hid aD;have dB:=hid aC;clear hZ aC aj aD;refine bodyPost_ret (v:=.tuple #[.agg #[.int .i64 ok,.string ox,.int .i64 oc,.slice A5 os.length c5],.int .i64 0]) (by simp[results,Tryz.results30,go_sem,e0,e1,e2,ak]) rfl ?_;rw[((((HA.out.2 (by trivial)).2 (by trivial)).2 (by trivial)).2 (by trivial)).2 (by trivial)];have hx6:=cO.out;have hzs:=dB.out;refine⟨_,rfl,cZ.out.keep (fun q hq=>dC.out q ?_) (fun q hq=>?_),aI.out⟩
 ·rcases hq with hq|hq
  ·have:=aK.out _ hq;omega
  omega
 rcases hq with hq|hq
 ·exact .inl hq
 exact .inr ⟨by omega,by omega⟩
