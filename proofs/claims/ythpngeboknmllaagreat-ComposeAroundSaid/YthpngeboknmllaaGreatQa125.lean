/- T -/
import Derived.Test.YthpngeboknmllaaGreatQa65a
set_option linter.unusedVariables false
set_option linter.unusedSimpArgs false
set_option maxHeartbeats 8000000
set_option maxRecDepth 100000
namespace Go.Proofs.YthpngeboknmllaaGreat
open Go.RowKit
theorem TR (l:List Z9) (row:List Int) (at_ n slot:Int) (nodes:List Z9) (old text:ByteArray) (A Ar An:Option Addr) (cap lr cr cn:Nat) (w:World) (S:Nat->Prop) (hS:∀q,S q->q<w.heap.size) (hl:Z8 Z7 w S l (.slice A l.length cap)) (hn:Z8 Z7 w S nodes (.slice An nodes.length cn)) (hat:Z4 at_) (hcl:ZT l<=1000000) (hcn:ZT nodes<=1000000) :
  Calls Tryz.prog 65 #[.slice A l.length cap,.agg (Zu ⟨2,row,at_,n,nodes,slot,old,text⟩ (.slice Ar lr cr) (.slice An nodes.length cn))] w (XB S w (ZC l ⟨2,row,at_,n,nodes,slot,old,text⟩)):=by
 have aD:l.length<=1000000:=by have:=WG l;omega
 have hln:nodes.length<=1000000:=by have:=WG nodes;omega
 have aa:YM ⟨2,row,at_,n,nodes,slot,old,text⟩=(nodes.length:Int):=by simp[YM]
 have ag:=hid hS;generalize ak:w.alloc (.cells (Zu ⟨2,row,at_,n,nodes,slot,old,text⟩ (.slice Ar lr cr) (.slice An nodes.length cn)) 49)=W0;have au:W0.heap.size=w.heap.size+1:=by rw[<-ak];simp
 have KB:Hid (∀W,Below W0.heap.size W0 W->Yv W w.heap.size ⟨2,row,at_,n,nodes,slot,old,text⟩ (.slice Ar lr cr) (.slice An nodes.length cn)/\Below w.heap.size w W):=fun W hW=>by
  have h0:Yv W0 w.heap.size ⟨2,row,at_,n,nodes,slot,old,text⟩ (.slice Ar lr cr) (.slice An nodes.length cn):=by rw[<-ak];exact Yv.new _ _ _ _ _
  have af:Below w.heap.size w W0:=by rw[<-ak];exact ZX _ _
  exact⟨h0.below hW (by omega),af.trans (hW.mono af.size)⟩
 obtain⟨⟨m0,m1,m2,m3,m4,m5,m6,m7⟩,af⟩:=KB.out W0 (QQ _ _);have ai:=hid af;have HZ0:=hid au;have HL:=hid hl;have HN:=hid hn;simp only[Zu] at *;clear hS hl hn af au;rcases Int.lt_or_le at_ 0 with r0|r0
 ·have i0:decide (at_<0)=true:=by simpa using r0
  have hr:ZC l ⟨2,row,at_,n,nodes,slot,old,text⟩=([],2):=if_pos (by rw[aa];simp only;omega);rw[hr];clear hr aa;go_enter Tryz.func65,Tryz.ntmps65
  go_wp2_with fail
  refine bodyPost_ret (v:=.tuple #[.slice none 0 0,.int .i64 2]) (by simp[results,Tryz.results65,go_sem]) rfl ?_;exact⟨_,rfl,Z8.nil_ 0 (QU _) none,ai.out⟩
 have i0:decide (at_<0)=false:=by simpa using r0
 rcases Int.lt_or_le (l.length:Int) at_ with r1|r1
 ·have i1:decide ((l.length:Int)<at_)=true:=by simpa using r1
  have hr:ZC l ⟨2,row,at_,n,nodes,slot,old,text⟩=([],2):=if_pos (by rw[aa];simp only;omega);rw[hr];clear hr aa;go_enter Tryz.func65,Tryz.ntmps65
  go_wp2_with fail
  refine bodyPost_ret (v:=.tuple #[.slice none 0 0,.int .i64 2]) (by simp[results,Tryz.results65,go_sem]) rfl ?_;exact⟨_,rfl,Z8.nil_ 0 (QU _) none,ai.out⟩
 have i1:decide ((l.length:Int)<at_)=false:=by simpa using r1
 have w1:IntKind.i64.wrap ((l.length:Int)-at_)=(l.length:Int)-at_:=IntWalk.i64_in _ (by omega);rcases Int.lt_or_le ((l.length:Int)-at_) ((nodes.length:Int)) with r2|r2
 ·have i2:decide ((l.length:Int)-at_<(nodes.length:Int))=true:=by simpa using r2
  have hr:ZC l ⟨2,row,at_,n,nodes,slot,old,text⟩=([],2):=if_pos (by rw[aa];simp only;omega);rw[hr];clear hr aa;go_enter Tryz.func65,Tryz.ntmps65
  go_wp2_with fail
  refine bodyPost_ret (v:=.tuple #[.slice none 0 0,.int .i64 2]) (by simp[results,Tryz.results65,go_sem]) rfl ?_;exact⟨_,rfl,Z8.nil_ 0 (QU _) none,ai.out⟩
 have i2:decide ((l.length:Int)-at_<(nodes.length:Int))=false:=by simpa using r2
 have w2:IntKind.i64.wrap (at_+(nodes.length:Int))=at_+(nodes.length:Int):=IntWalk.i64_in _ (by omega);have w3:IntKind.i64.wrap at_=at_:=IntWalk.i64_in _ (by omega);have ax:¬(at_<0\/(l.length:Int)<at_\/(l.length:Int)-at_<YM ⟨2,row,at_,n,nodes,slot,old,text⟩):=by rw[aa];omega
 obtain⟨a,ha⟩:∃a:Nat,at_=a:=⟨at_.toNat,by omega⟩;obtain⟨b,hb⟩:∃b:Nat,at_+(nodes.length:Int)=b:=⟨(at_+(nodes.length:Int)).toNat,by omega⟩;have aC:l.length<=cap:=by obtain⟨_,_,_,hq,h1,_⟩:=HL.out;cases hq;exact h1
 obtain⟨A1,aB,hcut⟩:=RZ Z7 Tryz.underlying22 VZ A l.length cap at_ (at_+(nodes.length:Int)) a b ha hb (by omega) (by omega) aC;have hr:ZC l ⟨2,row,at_,n,nodes,slot,old,text⟩=(if UA ((l.take b).drop a) nodes=true then (Zk l a b [],0) else ([],7)):=by
  unfold ZC;rw[if_neg ax,if_neg (by simp),if_pos rfl];simp only[hb];simp only[ha,Int.toNat_natCast]
 rw[hr];have ae:((l.take b).drop a).length=b-a:=by simp;omega
 have aj:=hcut _ _ _ HL.out;rw[<-ae] at aj aB;have CE:Hid (∀W,Below w.heap.size w W->Calls Tryz.prog 33 #[.slice A1 ((l.take b).drop a).length (cap-a),.slice An nodes.length cn] W fun e w'=>e=.returned (.bool (UA ((l.take b).drop a) nodes))/\Below W.heap.size W w'):=fun W hW=>zNr _ _ W _ _ (UM aj ag.out hW) (UM HN.out ag.out hW)
 have CS:Hid (∀W,Below w.heap.size w W->Calls Tryz.prog 104 #[.slice A l.length cap,.int .i64 at_,.int .i64 (at_+(nodes.length:Int)),.slice none 0 0] W (XN S W (Zk l a b []))):=fun W hW=>RG l [] at_ (at_+(nodes.length:Int)) a b A none cap 0 W S (fun q hq=>QV (ag.out q hq) hW.size) ha hb (by omega) (by omega) aD (QU _) (YH HL.out ag.out hW) (Z8.nil_ 0 (QU _) none)
 generalize UA ((l.take b).drop a) nodes=bS at *;generalize Zk l a b []=L at *;generalize ((l.take b).drop a).length=n2 at *;clear ax hr hb r0 r1 r2 aa hcut aj ae ha;cases bS
 all_goals
  go_enter Tryz.func65,Tryz.ntmps65
  go_wp2_with fail
  go_region_held3 (fun w'=>w'.cell? ⟨w.heap.size,2,none⟩=some (.int .i64 at_)/\w'.cell? ⟨w.heap.size,4,none⟩=some (.slice An nodes.length cn)) (go_keep) (first
   |(go_at_call 33;refine(CE.out _ (XF ai.out)).mono ?_;rintro e w5 ⟨rfl,aA⟩;have aH:=hid (Xt aA);clear aA;obtain⟨⟨k0,k1,k2,k3,k4,k5,k6,k7⟩,ay⟩:=KB.out w5 aH.out;have ah:=hid ay;clear ay))
  go_wp2_with fail
 ·refine bodyPost_ret (v:=.tuple #[.slice none 0 0,.int .i64 7]) (by simp[results,Tryz.results65,go_sem]) rfl ?_;exact⟨_,rfl,Z8.nil_ 0 (QU _) none,ah.out⟩
 refine(CS.out _ ah.out).mono ?_;rintro e w6 ⟨v6,rfl,av,az⟩;have aF:=hid av;have aG:=hid az;clear av az
 go_wp2_with fail
 refine bodyPost_ret (v:=.tuple #[v6,.int .i64 0]) (by simp[results,Tryz.results65,go_sem]) rfl ?_;exact⟨v6,rfl,aF.out.keep (fun _ _=>rfl) (fun q hq=>by rcases hq with hq|hq;exact .inl hq;exact .inr ⟨QP ah.out.size hq.1,hq.2⟩),Zx ah.out aG.out⟩
