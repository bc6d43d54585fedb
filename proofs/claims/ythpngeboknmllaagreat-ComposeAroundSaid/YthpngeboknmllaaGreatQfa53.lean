/- T -/
import Derived.Test.YthpngeboknmllaaGreatQ9bc4
set_option linter.unusedVariables false
set_option linter.unusedSimpArgs false
set_option maxHeartbeats 8000000
set_option maxRecDepth 100000
namespace Go.Proofs.YthpngeboknmllaaGreat
open Go.RowKit
theorem zKv (k:Int):WB k=true↔k=2\/k=3\/k=4\/k=10\/k=11:=by unfold WB;simp
def Sk (l:List Z9) (a:Nat) (x:Z9) (old text:ByteArray):List Z9×Int:=if WB x.kind=true/\(x.text.toList==old.toList)=true then (Zk l a (a+1) [.mk x.kind text x.cols x.kids],0) else ([],7)
theorem Vo (op:ZB) (l:List Z9) (a lr:Nat) (x:Z9) (Ar An A:Option Addr) (cr cn cap:Nat) (w:World) (S:Nat->Prop) (hS:∀q,S q->q<w.heap.size) (hl:Z8 Z7 w S l (.slice A l.length cap)) (ha:op.at_=a) (ax:a<l.length) (hx:l[a]=x) (aF:l.length<=400000) (ay:op.text.size<=maxLen) :
  Calls Tryz.prog 166 #[.agg (YE op (.slice Ar lr cr) (.slice An op.nodes.length cn) (.slice A l.length cap))] w (XB S w (Sk l a x op.old op.text)):=by
 obtain⟨W0,hW0,hz,KB⟩:=RY op (.slice Ar lr cr) (.slice An op.nodes.length cn) (.slice A l.length cap) w;have KBH:=hid KB;obtain⟨⟨⟨m0,m1,m2,m3,m4,m5,m6,m7⟩,m8⟩,ae⟩:=KB W0 (QQ _ _);have av:=hid ae;have aG:=hl;obtain⟨_,_,rs0,hq,_,_,ah,ai⟩:=aG;cases hq;obtain⟨g,o,A1,c1,aD,rfl,hg,t0,t1,t2,t3,b1,b2,b3,b4,b5,af,ag⟩:=Y5 ah ai ax;simp only[hx] at t0 t1 t2 t3 b1 b2 b3 b4 b5 af ag;have ak:g<w.heap.size:=hS g hg;have aB:Z8 Z7 w S x.kids (.slice A1 x.kids.length c1):=⟨_,_,aD,rfl,b4,b5,af,ag⟩;have q0:=(ae.cell (p:=⟨g,_,none⟩) ak).trans t0;have q1:=(ae.cell (p:=⟨g,_,none⟩) ak).trans t1;have q2:=(ae.cell (p:=⟨g,_,none⟩) ak).trans t2;have q3:=(ae.cell (p:=⟨g,_,none⟩) ak).trans t3;obtain⟨xk,xt,xc,xs⟩:=x;simp only[Z9.kind,Z9.text,Z9.cols,Z9.kids] at *;have aA:Zt (.mk xk op.text xc xs):=⟨b1,b2,ay⟩;have HJ:Hid (∀W gg,Below w.heap.size w W->gg=W.heap.size->Calls Tryz.prog 171 #[.agg (YE op (.slice Ar lr cr) (.slice An op.nodes.length cn) (.slice (some ⟨g,o,none⟩) l.length cap)),.int .i64 1,.slice (some ⟨gg,0,none⟩) 1 1] (W.alloc (Obj.cells #[.int .i64 xk,.string op.text,.int .i64 xc,.slice A1 xs.length c1] 24)) (XN S w (Zk l a (a+1) [.mk xk op.text xc xs]))):=fun W gg hW aH=>by
  subst aH;have h9:=hW.trans ((ZX W (Obj.cells #[.int .i64 xk,.string op.text,.int .i64 xc,.slice A1 xs.length c1] 24)).mono hW.size);exact(Rk op l [.mk xk op.text xc xs] 1 a (a+1) lr Ar (some ⟨g,o,none⟩) _ (.slice An op.nodes.length cn) cr cap 1 _ (fun q=>S q\/q=W.heap.size) (fun q hq=>by
   rcases hq with hq|rfl
   ·exact QV (hS q hq) h9.size
   simp) ((YH hl hS h9).keep (fun _ _=>rfl) (fun _ h=>.inl h)) (Uk (fun q hq=>QV (hS q hq) hW.size) aA (YH aB hS hW)) ha (by omega) (by omega) ax (by simp;omega)).mono fun e w' h=>h.wide (fun q hq=>by
   rcases hq with hq|rfl
   ·exact .inl hq
   exact .inr ⟨hW.size,by simp⟩) h9
 have aI:Hid (Below w.heap.size w (W0.alloc (Obj.cells #[.int .i64 xk,.string op.text,.int .i64 xc,.slice A1 xs.length c1] 24))):=ae.alloc ae.size _;obtain⟨kind,row,at_,n,nodes,slot,old,text⟩:=op;simp only[YE] at *;subst ha;have i0:(0:Int)<=(a:Int):=by omega
 have i1:(a:Int)<(l.length:Int):=by omega
 have au:Hid (WB xk=true->(xt.toList==old.toList)=true->Sk l a (.mk xk xt xc xs) old text=(Zk l a (a+1) [.mk xk text xc xs],0)):=fun h1 h2=>if_pos ⟨h1,h2⟩
 have aj:Hid (WB xk=false\/(xt.toList==old.toList)=false->Sk l a (.mk xk xt xc xs) old text=([],7)):=fun h=>if_neg (fun h9=>h.elim (fun h=>absurd (h.symm.trans h9.1) (by decide)) (fun h=>absurd (h.symm.trans h9.2) (by decide)))
 generalize Sk l a (.mk xk xt xc xs) old text=R at *;generalize hbt:(xt.toList==old.toList)=bt at *;generalize Zk l a (a+1) [.mk xk text xc xs]=L at *;have aa:=zKv xk;generalize WB xk=bk at *;clear hl hS hx KB ae ah ai af ag t0 t1 t2 t3 b1 b2 b3 b4 b5 aA aB aF ay ax;cases bk
 ·simp at aa;have j1:(xk==2)=false:=by simpa using aa.1
  have j2:(xk==3)=false:=by simpa using aa.2.1
  have j3:(xk==4)=false:=by simpa using aa.2.2.1
  have j4:(xk==10)=false:=by simpa using aa.2.2.2.1
  have j5:(xk==11)=false:=by simpa using aa.2.2.2.2
  rw[aj.out (.inl rfl)];clear HJ aa au aj;go_enter Tryz.func166,Tryz.ntmps166
  go_wp2_with fail
  refine bodyPost_ret (v:=.tuple #[.slice none 0 0,.int .i64 7]) (by simp[results,Tryz.results166,go_sem]) rfl ?_;exact Um (av.out.alloc av.out.size _) _
 have aa:=aa.1 rfl;cases bt
 ·rw[aj.out (.inr rfl)];clear HJ au aj;rcases aa with rfl|rfl|rfl|rfl|rfl
  all_goals
   go_enter Tryz.func166,Tryz.ntmps166
   go_wp2_with fail
   refine bodyPost_ret (v:=.tuple #[.slice none 0 0,.int .i64 7]) (by simp[results,Tryz.results166,go_sem]) rfl ?_;exact Um (av.out.alloc av.out.size _) _
 rw[au.out rfl rfl];clear au aj;rcases aa with rfl|rfl|rfl|rfl|rfl
 all_goals
  go_enter Tryz.func166,Tryz.ntmps166
  go_wp2_with fail
  refine(HJ.out _ (w.heap.size+1+1) aI.out (by simp[hz])).mono ?_;rintro e w6 ⟨v6,rfl,az,aC⟩;have aJ:=hid az;have aK:=hid aC;clear az aC
  go_wp2_with fail
  refine bodyPost_ret (v:=.tuple #[v6,.int .i64 0]) (by simp[results,Tryz.results166,go_sem]) rfl ?_;exact⟨v6,rfl,aJ.out,aK.out⟩
