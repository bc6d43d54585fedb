/- T -/
import Derived.Test.YthpngeboknmllaaGreatQb6ef
set_option linter.unusedVariables false
set_option linter.unusedSimpArgs false
set_option maxHeartbeats 4000000
set_option maxRecDepth 100000
namespace Go.Proofs.YthpngeboknmllaaGreat
open Go.RowKit
abbrev YE (op:ZB) (vr vn vi:Value):Array Value:=#[.int .i64 op.kind,vr,.int .i64 op.at_,.int .i64 op.n,vn,.int .i64 op.slot,.string op.old,.string op.text,vi]
theorem Ti {α:Type} {E:YW α} {w w':World} {S:Nat->Prop} {a b c:List α} {va vb vc:Value} (ha:Z8 E w S a va) (hb:Z8 E w S b vb) (hc:Z8 E w S c vc) (e:TypeId) (he:w'=w.alloc (.cells #[va,vb,vc] e)) (hS:∀k,S k->k<w.heap.size) (g:Nat) (hg:g=w.heap.size) :
  Z8 (Xv E) w' (fun q=>S q\/q=g) [a,b,c] (.slice (some ⟨g,0,none⟩) 3 3):=by
 subst he hg;have hk:Zy S w (w.alloc (.cells #[va,vb,vc] e)):=fun p hp=>World.cell?_alloc_lt w _ p (hS _ hp)
 have hm:∀k,S k->S k\/k=w.heap.size:=fun k h=>.inl h
 refine⟨_,_,[va,vb,vc],rfl,QT _,by simp[maxLen],fun _=>⟨w.heap.size,0,rfl,.inr rfl,fun j u hu=>?_⟩,?_⟩
 ·rw[Nat.zero_add,World.cell?_alloc_new];simpa using hu
 exact⟨[va],_,rfl,⟨va,rfl,ha.keep hk hm⟩,[vb],_,rfl,⟨vb,rfl,hb.keep hk hm⟩,[vc],_,rfl,⟨vc,rfl,hc.keep hk hm⟩,rfl⟩
theorem XN.wide {S S':Nat->Prop} {w W:World} {L:List Z9} {e:Ending} {w':World} (h:XN S' W L e w') (hS:∀q,S' q->S q\/w.heap.size<=q/\q<W.heap.size) (hb:Below w.heap.size w W):XN S w L e w':=by
 obtain⟨v,h1,h2,h3⟩:=h;refine⟨v,h1,h2.keep (fun _ _=>rfl) (fun q hq=>?_),hb.trans (h3.mono hb.size)⟩;rcases hq with hq|hq
 ·rcases hS q hq with h|h
  ·exact .inl h
  exact .inr ⟨h.1,QV h.2 h3.size⟩
 exact .inr ⟨QP hb.size hq.1,hq.2⟩
def SK (l:Nat) (op:ZB):Int:=if op.at_<0\/(l:Int)<op.at_\/(l:Int)-op.at_<YM op then 2 else 0
theorem zOx (op:ZB) (l lr:Nat) (Ar An A:Option Addr) (cr cn cap:Nat) (w:World) (hl:l<=1000000) :
  Calls Tryz.prog 161 #[.agg (YE op (.slice Ar lr cr) (.slice An op.nodes.length cn) (.slice A l cap))] w fun e w'=>e=.returned (.int .i64 (SK l op))/\Below w.heap.size w w':=by
 have hb:=ZX w (Obj.cells (YE op (.slice Ar lr cr) (.slice An op.nodes.length cn) (.slice A l cap)) 161);obtain⟨kind,row,at_,n,nodes,slot,old,text⟩:=op;simp only[YE,SK,YM] at *;generalize nodes.length=nl at *;have ae:kind=1\/kind=2\/kind=3\/(kind≠1/\kind≠2/\kind≠3):=by omega
 obtain⟨nd,aa⟩:∃nd:Int,nd=(if kind=1 then 0 else if kind=2 then (nl:Int) else if kind=3 then n else 1):=⟨_,rfl⟩;rw[<-aa];have w1:0<=at_->at_<=l->IntKind.i64.wrap ((l:Int)-at_)=(l:Int)-at_:=fun h1 h2=>IntWalk.i64_in _ (by omega)
 have hd:(decide (at_<0)=true)\/(decide (at_<0)=false/\decide ((l:Int)<at_)=true)\/(decide (at_<0)=false/\decide ((l:Int)<at_)=false/\decide ((l:Int)-at_<nd)=true)\/(decide (at_<0)=false/\decide ((l:Int)<at_)=false/\decide ((l:Int)-at_<nd)=false):=by
  cases decide (at_<0)<;>cases decide ((l:Int)<at_)<;>cases decide ((l:Int)-at_<nd)<;>simp
 obtain⟨R,hR⟩:∃R:Int,R=if at_<0\/(l:Int)<at_\/(l:Int)-at_<nd then 2 else 0:=⟨_,rfl⟩
 rw[<-hR];rcases hd with i0|⟨i0,i1⟩|⟨i0,i1,i2⟩|⟨i0,i1,i2⟩
 ·obtain rfl:R=2:=by rw[hR];simp at i0;exact if_pos (by omega)
  clear hR;rcases ae with rfl|rfl|rfl|⟨j1,j2,j3⟩
  case inr.inr.inr =>
   have j1:(kind==1)=false:=by simpa using j1
   have j2:(kind==2)=false:=by simpa using j2
   have j3:(kind==3)=false:=by simpa using j3
   clear aa;go_enter Tryz.func161,Tryz.ntmps161
   go_wp2_with fail
   go_ret;exact⟨rfl,hb⟩
  all_goals
   clear aa;go_enter Tryz.func161,Tryz.ntmps161
   go_wp2_with fail
   go_ret;exact⟨rfl,hb⟩
 ·obtain rfl:R=2:=by rw[hR];simp at i1;exact if_pos (by omega)
  clear hR;rcases ae with rfl|rfl|rfl|⟨j1,j2,j3⟩
  case inr.inr.inr =>
   have j1:(kind==1)=false:=by simpa using j1
   have j2:(kind==2)=false:=by simpa using j2
   have j3:(kind==3)=false:=by simpa using j3
   clear aa;go_enter Tryz.func161,Tryz.ntmps161
   go_wp2_with fail
   go_ret;exact⟨rfl,hb⟩
  all_goals
   clear aa;go_enter Tryz.func161,Tryz.ntmps161
   go_wp2_with fail
   go_ret;exact⟨rfl,hb⟩
 ·obtain rfl:R=2:=by rw[hR];simp at i2;exact if_pos (by omega)
  clear hR;have af:=w1 (by simpa using i0) (by simpa using i1);rcases ae with rfl|rfl|rfl|⟨j1,j2,j3⟩
  case inr.inr.inr =>
   obtain rfl:nd=1:=by rw[aa];simp[j1,j2,j3]
   have j1:(kind==1)=false:=by simpa using j1
   have j2:(kind==2)=false:=by simpa using j2
   have j3:(kind==3)=false:=by simpa using j3
   clear aa w1;go_enter Tryz.func161,Tryz.ntmps161
   go_wp2_with fail
   go_ret;exact⟨rfl,hb⟩
  all_goals
   simp at aa;subst aa;clear w1;go_enter Tryz.func161,Tryz.ntmps161
   go_wp2_with fail
   go_ret;exact⟨rfl,hb⟩
 obtain rfl:R=0:=by rw[hR];simp at i0 i1 i2;exact if_neg (by omega)
 clear hR;have af:=w1 (by simpa using i0) (by simpa using i1);rcases ae with rfl|rfl|rfl|⟨j1,j2,j3⟩
 case inr.inr.inr =>
  obtain rfl:nd=1:=by rw[aa];simp[j1,j2,j3]
  have j1:(kind==1)=false:=by simpa using j1
  have j2:(kind==2)=false:=by simpa using j2
  have j3:(kind==3)=false:=by simpa using j3
  clear aa w1;go_enter Tryz.func161,Tryz.ntmps161
  go_wp2_with fail
  go_ret;exact⟨rfl,hb⟩
 all_goals
  simp at aa;subst aa;clear w1;go_enter Tryz.func161,Tryz.ntmps161
  go_wp2_with fail
  go_ret;exact⟨rfl,hb⟩
theorem Rk (op:ZB) (l nodes:List Z9) (n:Int) (a b lr:Nat) (Ar A B:Option Addr) (vn:Value) (cr cap cb:Nat) (w:World) (S:Nat->Prop) (hS:∀q,S q->q<w.heap.size) (hl:Z8 Z7 w S l (.slice A l.length cap)) (hn:Z8 Z7 w S nodes (.slice B nodes.length cb))
  (ha:op.at_=a) (hb:op.at_+n=b) (az:a<=l.length) (ay:b<=l.length) (ax:l.length+nodes.length<=500000) :
  Calls Tryz.prog 171 #[.agg (YE op (.slice Ar lr cr) vn (.slice A l.length cap)),.int .i64 n,.slice B nodes.length cb] w (XN S w (Zk l a b nodes)):=by
 obtain⟨kind,row,at_,n0,av,slot,old,text⟩:=op;simp only[YE] at *;have af:=ZX w (Obj.cells (YE ⟨kind,row,at_,n0,av,slot,old,text⟩ (.slice Ar lr cr) vn (.slice A l.length cap)) 161);have ah:l.length<=cap:=by obtain⟨_,_,_,hq,h1,_⟩:=hl;cases hq;exact h1
 obtain⟨A1,hs1,hc1⟩:=UJ Z7 Tryz.underlying22 VZ A l.length cap at_ a ha (by omega) ah;obtain⟨A2,hs2,ai⟩:=Wn Z7 Tryz.underlying22 VZ A l.length cap (at_+n) b hb (by omega);have v1:IntKind.i64.wrap (at_+n)=at_+n:=IntWalk.i64_in _ (by omega);have e1:(l.take a).length=a:=by simp;omega
 have e2:(l.drop b).length=l.length-b:=by simp
 have aB:Hid (∀W,Below w.heap.size w W->Calls Tryz.prog 177 #[.slice (some ⟨W.heap.size,0,none⟩) 3 3] (W.alloc (.cells #[.slice A1 a cap,.slice B nodes.length cb,.slice A2 (l.length-b) (cap-b)] 22)) (fun e w'=>XN S w (Zk l a b nodes) e w'/\Below (W.alloc (.cells #[.slice A1 a cap,.slice B nodes.length cb,.slice A2 (l.length-b) (cap-b)] 22)).heap.size (W.alloc (.cells #[.slice A1 a cap,.slice B nodes.length cb,.slice A2 (l.length-b) (cap-b)] 22)) w')):=fun W hW=>by
  have ak:∀q,S q->q<W.heap.size:=fun q hq=>QV (hS q hq) hW.size
  have h:=zNd [l.take a,nodes,l.drop b] (W.alloc (.cells #[.slice A1 a cap,.slice B nodes.length cb,.slice A2 (l.length-b) (cap-b)] 22)) (.slice (some ⟨W.heap.size,0,none⟩) 3 3) (fun q=>S q\/q=W.heap.size) (fun q hq=>by
    rcases hq with hq|rfl
    ·exact QV (ak q hq) (by simp)
    simp)
   (Ti (S:=S) (by have:=hc1 W _ l (YH hl hS hW);exact this) (YH hn hS hW) (ai W _ l (YH hl hS hW)) _ rfl ak _ rfl) (by simp;omega)
  have e3:[l.take a,nodes,l.drop b].flatten=Zk l a b nodes:=by simp[Zk]
  rw[e3] at h;exact h.mono fun e w' h=>⟨h.wide (fun q hq=>by
   rcases hq with hq|rfl
   ·exact .inl hq
   exact .inr ⟨hW.size,by simp⟩) (hW.trans ((ZX W _).mono hW.size)),by obtain⟨_,_,_,h⟩:=h;exact h⟩
 have au:=hid af;simp only[YE] at af au;generalize ae:(w.alloc (.cells #[.int .i64 kind,.slice Ar lr cr,.int .i64 at_,.int .i64 n0,vn,.int .i64 slot,.string old,.string text,.slice A l.length cap] 161))=W0 at *;have m2:W0.cell? ⟨w.heap.size,2,none⟩=some (.int .i64 at_):=by rw[<-ae];exact ZU _ _ _ _ _ rfl
 have m8:W0.cell? ⟨w.heap.size,8,none⟩=some (.slice A l.length cap):=by rw[<-ae];exact ZU _ _ _ _ _ rfl
 have KM:Hid (∀W,Below W0.heap.size W0 W->W.cell? ⟨w.heap.size,2,none⟩=some (.int .i64 at_)/\W.cell? ⟨w.heap.size,8,none⟩=some (.slice A l.length cap)):=fun W hW=>⟨(hW.cell (p:=⟨w.heap.size,2,none⟩) (Y2 m2)).trans m2,(hW.cell (p:=⟨w.heap.size,8,none⟩) (Y2 m8)).trans m8⟩
 generalize Zk l a b nodes=L at *;clear hl hn hc1 ai e1 e2 ha hb az ay ax ah;go_enter Tryz.func171,Tryz.ntmps171
 go_upto_region 1 with fail
 try rw[ae]
 clear ae af
 go_wp2_with fail
 go_region_held3 (fun w'=>w'.cell? ⟨w.heap.size,2,none⟩=some (.int .i64 at_)/\w'.cell? ⟨w.heap.size,8,none⟩=some (.slice A l.length cap)) (go_keep) (first
  |(go_at_call 177;refine(aB.out _ (XF au.out)).mono ?_;rintro e w5 ⟨⟨v5,rfl,ag,aj⟩,aa⟩;have aA:=hid ag;have aC:=hid aj;obtain⟨n2,n8⟩:=KM.out _ (Zx (Zq (XF (QQ _ W0)) _) aa);clear ag aj aa))
 go_wp2_with fail
 go_ret;exact⟨_,rfl,aA.out,aC.out⟩
theorem Uk {w:World} {S:Nat->Prop} (hS:∀q,S q->q<w.heap.size) {k:Int} {x:ByteArray} {c:Int} {ts:List Z9} {v:Value} {T:TypeId} (aa:Zt (.mk k x c ts)) (h:Z8 Z7 w S ts v) :
  Z8 Z7 (w.alloc (Obj.cells #[.int .i64 k,.string x,.int .i64 c,v] T)) (fun q=>S q\/q=w.heap.size) [.mk k x c ts] (.slice (some ⟨w.heap.size,0,none⟩) 1 1) :=
 (Tk (W:=w.alloc (Obj.cells #[.int .i64 k,.string x,.int .i64 c,v] T)) (S:=S) (b:=w.heap.size) aa (h.keep (fun _ _=>rfl) (fun _ h=>.inl h)) hS (QT _) (QQ _ _) rfl).keep (fun _ _=>rfl) (fun q hq=>by
  rcases hq with hq|hq
  ·exact .inl hq
  right;have h1:=hq.1;have h2:=hq.2;simp at h2;omega)
theorem Um {S:Nat->Prop} {w w':World} (hb:Below w.heap.size w w') (r:Int):XB S w ([],r) (.returned (.tuple #[.slice none 0 0,.int .i64 r])) w':=⟨_,rfl,Z8.nil_ 0 (QU _) none,hb⟩
theorem XN.change {S:Nat->Prop} {w W w':World} {L:List Z9} {v:Value} (hb:Below w.heap.size w W) (h:Z8 Z7 w' (fun q=>S q\/W.heap.size<=q/\q<w'.heap.size) L v) (h2:Below W.heap.size W w'):XB S w (L,0) (.returned (.tuple #[v,.int .i64 0])) w':=by
 obtain⟨v',e,h3,h4⟩:=XN.wide (S:=S) (w:=w) (⟨v,rfl,h,h2⟩:XN S W L (.returned v) w') (fun q hq=>.inl hq) hb;cases e;exact⟨_,rfl,h3,h4⟩
def QY (W:World) (b:Nat) (op:ZB) (vr vn vi:Value):Prop:=Yv W b op vr vn/\W.cell? ⟨b,8,none⟩=some vi
theorem RY (op:ZB) (vr vn vi:Value) (w:World):∃W0,w.alloc (.cells (YE op vr vn vi) 161)=W0/\W0.heap.size=w.heap.size+1/\∀W,Below W0.heap.size W0 W->QY W w.heap.size op vr vn vi/\Below w.heap.size w W:=by
 refine⟨_,rfl,by simp,fun W hW=>⟨⟨?_,?_⟩,(ZX w _).trans (hW.mono (by simp))⟩⟩
 ·refine⟨?_,?_,?_,?_,?_,?_,?_,?_⟩<;>exact(hW.cell (p:=⟨w.heap.size,_,none⟩) (by simp)).trans (by rw[World.cell?_alloc_new];rfl)
 exact(hW.cell (p:=⟨w.heap.size,_,none⟩) (by simp)).trans (by rw[World.cell?_alloc_new];rfl)
theorem RB {w:World} {S:Nat->Prop} {ts:List Z9} {A:Option Addr} {n c:Nat} (h:Z8 Z7 w S ts (.slice A n c)):n<=c:=by obtain⟨_,_,_,hq,h1,_⟩:=h;cases hq;exact h1
theorem zM7 (op:ZB) (l:List Z9) (a lr:Nat) (Ar An A:Option Addr) (cr cn cap:Nat) (w:World) (S:Nat->Prop) (hS:∀q,S q->q<w.heap.size) (hl:Z8 Z7 w S l (.slice A l.length cap)) (hn:Z8 Z7 w S op.nodes (.slice An op.nodes.length cn)) (ha:op.at_=a) (ae:a<=l.length) (ag:l.length+op.nodes.length<=500000) :
  Calls Tryz.prog 162 #[.agg (YE op (.slice Ar lr cr) (.slice An op.nodes.length cn) (.slice A l.length cap))] w (XB S w (Zk l a a op.nodes,0)):=by
 obtain⟨W0,hW0,hz,KB⟩:=RY op (.slice Ar lr cr) (.slice An op.nodes.length cn) (.slice A l.length cap) w;obtain⟨⟨⟨m0,m1,m2,m3,m4,m5,m6,m7⟩,m8⟩,aa⟩:=KB W0 (QQ _ _);have HJ:=hid (Rk op l op.nodes 0 a a lr Ar A An (.slice An op.nodes.length cn) cr cap cn W0 S (fun q hq=>QV (hS q hq) aa.size) (YH hl hS aa) (YH hn hS aa) ha (by omega) ae ae ag);have ak:=hid aa;obtain⟨kind,row,at_,n,nodes,slot,old,text⟩:=op;simp only[YE] at *;clear hl hn ha ae ag KB aa hS;go_enter Tryz.func162,Tryz.ntmps162
 go_wp2_with fail
 refine HJ.out.mono ?_;rintro e w1 ⟨v1,rfl,af,ah⟩;have ai:=hid af;have aj:=hid ah;clear af ah
 go_wp2_with fail
 refine bodyPost_ret (v:=.tuple #[v1,.int .i64 0]) (by simp[results,Tryz.results162,go_sem]) rfl ?_;exact XN.change ak.out ai.out aj.out
theorem zM6 (op:ZB) (l:List Z9) (a lr:Nat) (Ar An A:Option Addr) (cr cn cap:Nat) (w:World) (S:Nat->Prop) (hS:∀q,S q->q<w.heap.size) (hl:Z8 Z7 w S l (.slice A l.length cap)) (hn:Z8 Z7 w S op.nodes (.slice An op.nodes.length cn)) (ha:op.at_=a) (ak:a+op.nodes.length<=l.length) (av:l.length+op.nodes.length<=500000) :
  Calls Tryz.prog 163 #[.agg (YE op (.slice Ar lr cr) (.slice An op.nodes.length cn) (.slice A l.length cap))] w (XB S w (if UA ((l.take (a+op.nodes.length)).drop a) op.nodes=true then (Zk l a (a+op.nodes.length) [],0) else ([],7))):=by
 obtain⟨W0,hW0,hz,KB⟩:=RY op (.slice Ar lr cr) (.slice An op.nodes.length cn) (.slice A l.length cap) w;have ax:=hid KB;obtain⟨⟨⟨m0,m1,m2,m3,m4,m5,m6,m7⟩,m8⟩,au⟩:=KB W0 (QQ _ _);have aB:=hid au;have ag:=RB hl;obtain⟨A1,hsl,hcut⟩:=RZ Z7 Tryz.underlying22 VZ A l.length cap op.at_ (op.at_+(op.nodes.length:Int)) a (a+op.nodes.length) ha (by omega) (by omega) (by omega) ag;have aa:((l.take (a+op.nodes.length)).drop a).length=a+op.nodes.length-a:=by simp;omega
 have w2:IntKind.i64.wrap (op.at_+(op.nodes.length:Int))=op.at_+(op.nodes.length:Int):=IntWalk.i64_in _ (by omega);have CE:Hid (∀W,Below w.heap.size w W->Calls Tryz.prog 172 #[.slice A1 (a+op.nodes.length-a) (cap-a),.slice An op.nodes.length cn,.func (.func 173) #[] #[]] W (Xg W (UA ((l.take (a+op.nodes.length)).drop a) op.nodes))):=fun W hW=>by
  have h:=Uf ((l.take (a+op.nodes.length)).drop a) op.nodes W A1 An (cap-a) cn (by rw[aa];exact hcut _ _ _ (UM hl hS hW)) (UM hn hS hW)
  change Calls _ _ _ _ (Xg W (UA _ _)) at h
  rw[aa] at h;exact h
 have HJ:Hid (∀W,Below w.heap.size w W->Calls Tryz.prog 171 #[.agg (YE op (.slice Ar lr cr) (.slice An op.nodes.length cn) (.slice A l.length cap)),.int .i64 (op.nodes.length:Int),.slice none 0 0] W (XN S W (Zk l a (a+op.nodes.length) []))):=fun W hW =>
  Rk op l [] op.nodes.length a (a+op.nodes.length) lr Ar A none (.slice An op.nodes.length cn) cr cap 0 W S (fun q hq=>QV (hS q hq) hW.size) (YH hl hS hW) (Z8.nil_ 0 (QU _) none) ha (by omega) (by omega) ak (by simp;omega)
 obtain⟨kind,row,at_,n,nodes,slot,old,text⟩:=op;simp only[YE] at *;generalize UA ((l.take (a+nodes.length)).drop a) nodes=bS at *;generalize Zk l a (a+nodes.length) []=L at *;generalize a+nodes.length-a=n2 at *;clear hl hn ha ak av KB au hcut aa ag hS;cases bS
 all_goals
  go_enter Tryz.func163,Tryz.ntmps163
  go_wp2_with fail
  go_region_held3 (fun w'=>w'.cell? ⟨w.heap.size,2,none⟩=some (.int .i64 at_)/\w'.cell? ⟨w.heap.size,4,none⟩=some (.slice An nodes.length cn)/\w'.cell? ⟨w.heap.size,8,none⟩=some (.slice A l.length cap)) (go_keep) (first
   |(go_at_call 172;refine(CE.out _ (XF aB.out)).mono ?_;rintro e w5 ⟨rfl,aj⟩;have aA:=hid (Xt aj);clear aj;obtain⟨⟨⟨k0,k1,k2,k3,k4,k5,k6,k7⟩,k8⟩,ah⟩:=ax.out w5 aA.out;have ae:=hid ah;clear ah))
  go_wp2_with fail
 ·refine bodyPost_ret (v:=.tuple #[.slice none 0 0,.int .i64 7]) (by simp[results,Tryz.results163,go_sem]) rfl ?_;exact Um ae.out _
 refine(HJ.out _ ae.out).mono ?_;rintro e w6 ⟨v6,rfl,af,ai⟩;have ay:=hid af;have az:=hid ai;clear af ai
 go_wp2_with fail
 refine bodyPost_ret (v:=.tuple #[v6,.int .i64 0]) (by simp[results,Tryz.results163,go_sem]) rfl ?_;exact XN.change ae.out ay.out az.out
