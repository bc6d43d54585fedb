/- T -/
import Derived.Test.YthpngeboknmllaaGreatQde4e
set_option linter.unusedVariables false
set_option linter.unusedSimpArgs false
set_option maxHeartbeats 8000000
set_option maxRecDepth 100000
namespace Go.Proofs.YthpngeboknmllaaGreat
open Go.RowKit
theorem zKv (k:Int):XR k=true↔k=2\/k=3\/k=4\/k=10\/k=11:=by unfold XR;simp
def QK (l:List Z9) (a:Nat) (x:Z9) (old text:ByteArray):List Z9×Int:=if XR x.kind=true/\(x.text.toList==old.toList)=true then (Zn l a (a+1) [.mk x.kind text x.cols x.kids],0) else ([],7)
theorem UF (op:ZL) (l:List Z9) (a lr:Nat) (x:Z9) (Ar An A:Option Addr) (cr cn cap:Nat) (w:World) (S:Nat->Prop) (hS:∀q,S q->q<w.heap.size) (hl:Z8 Z6 w S l (.slice A l.length cap)) (ha:op.at_=a) (ay:a<l.length) (hx:l[a]=x) (aG:l.length<=400000) (az:op.text.size<=maxLen) :
  Calls Tryz.prog 166 #[.agg (Yt op (.slice Ar lr cr) (.slice An op.nodes.length cn) (.slice A l.length cap))] w (Xz S w (QK l a x op.old op.text)):=by
 obtain⟨W0,hW0,hz,KB⟩:=Qp op (.slice Ar lr cr) (.slice An op.nodes.length cn) (.slice A l.length cap) w;have KBH:=hid KB;obtain⟨⟨⟨m0,m1,m2,m3,m4,m5,m6,m7⟩,m8⟩,ae⟩:=KB W0 (Qg _ _);have ax:=hid ae;have aH:=hl;obtain⟨_,_,rs0,hq,_,_,ah,aj⟩:=aH;cases hq;obtain⟨g,o,A1,c1,aF,rfl,hg,t0,t1,t2,t3,b1,b2,b3,b4,b5,af,ag⟩:=YW ah aj ay;simp only[hx] at t0 t1 t2 t3 b1 b2 b3 b4 b5 af ag;have au:g<w.heap.size:=hS g hg;have aC:Z8 Z6 w S x.kids (.slice A1 x.kids.length c1):=⟨_,_,aF,rfl,b4,b5,af,ag⟩;have q0:=(ae.cell (p:=⟨g,_,none⟩) au).trans t0;have q1:=(ae.cell (p:=⟨g,_,none⟩) au).trans t1;have q2:=(ae.cell (p:=⟨g,_,none⟩) au).trans t2;have q3:=(ae.cell (p:=⟨g,_,none⟩) au).trans t3;obtain⟨xk,xt,xc,xs⟩:=x;simp only[Z9.kind,Z9.text,Z9.cols,Z9.kids] at *;have aB:Zk (.mk xk op.text xc xs):=⟨b1,b2,az⟩;have HJ:Hid (∀W gg,Below w.heap.size w W->gg=W.heap.size->Calls Tryz.prog 171 #[.agg (Yt op (.slice Ar lr cr) (.slice An op.nodes.length cn) (.slice (some ⟨g,o,none⟩) l.length cap)),.int .i64 1,.slice (some ⟨gg,0,none⟩) 1 1] (W.alloc (Obj.cells #[.int .i64 xk,.string op.text,.int .i64 xc,.slice A1 xs.length c1] 24)) (XL S w (Zn l a (a+1) [.mk xk op.text xc xs]))):=fun W gg hW aI=>by
  subst aI;have h9:=hW.trans ((ZW W (Obj.cells #[.int .i64 xk,.string op.text,.int .i64 xc,.slice A1 xs.length c1] 24)).mono hW.size);exact(zGa op l [.mk xk op.text xc xs] 1 a (a+1) lr Ar (some ⟨g,o,none⟩) _ (.slice An op.nodes.length cn) cr cap 1 _ (fun q=>S q\/q=W.heap.size) (fun q hq=>by
   rcases hq with hq|rfl
   ·exact Qk (hS q hq) h9.size
   simp) ((Yx hl hS h9).keep (fun _ _=>rfl) (fun _ h=>.inl h)) (Rh (fun q hq=>Qk (hS q hq) hW.size) aB (Yx aC hS hW)) ha (by omega) (by omega) ay (by simp;omega)).mono fun e w' h=>h.wide (fun q hq=>by
   rcases hq with hq|rfl
   ·exact .inl hq
   exact .inr ⟨hW.size,by simp⟩) h9
 have aJ:Hid (Below w.heap.size w (W0.alloc (Obj.cells #[.int .i64 xk,.string op.text,.int .i64 xc,.slice A1 xs.length c1] 24))):=ae.alloc ae.size _;obtain⟨kind,row,at_,n,nodes,slot,old,text⟩:=op;simp only[Yt] at *;subst ha;have i0:(0:Int)<=(a:Int):=by omega
 have i1:(a:Int)<(l.length:Int):=by omega
 have av:Hid (XR xk=true->(xt.toList==old.toList)=true->QK l a (.mk xk xt xc xs) old text=(Zn l a (a+1) [.mk xk text xc xs],0)):=fun h1 h2=>if_pos ⟨h1,h2⟩
 have ak:Hid (XR xk=false\/(xt.toList==old.toList)=false->QK l a (.mk xk xt xc xs) old text=([],7)):=fun h=>if_neg (fun h9=>h.elim (fun h=>absurd (h.symm.trans h9.1) (by decide)) (fun h=>absurd (h.symm.trans h9.2) (by decide)))
 generalize QK l a (.mk xk xt xc xs) old text=R at *;generalize hbt:(xt.toList==old.toList)=bt at *;generalize Zn l a (a+1) [.mk xk text xc xs]=L at *;have aa:=zKv xk;generalize XR xk=bk at *;clear hl hS hx KB ae ah aj af ag t0 t1 t2 t3 b1 b2 b3 b4 b5 aB aC aG az ay;cases bk
 ·simp at aa;have j1:(xk==2)=false:=by simpa using aa.1
  have j2:(xk==3)=false:=by simpa using aa.2.1
  have j3:(xk==4)=false:=by simpa using aa.2.2.1
  have j4:(xk==10)=false:=by simpa using aa.2.2.2.1
  have j5:(xk==11)=false:=by simpa using aa.2.2.2.2
  rw[ak.out (.inl rfl)];clear HJ aa av ak;go_enter Tryz.func166,Tryz.ntmps166
  go_wp2_with fail
  refine bodyPost_ret (v:=.tuple #[.slice none 0 0,.int .i64 7]) (by simp[results,Tryz.results166,go_sem]) rfl ?_;exact Tg (ax.out.alloc ax.out.size _) _
 have aa:=aa.1 rfl;cases bt
 ·rw[ak.out (.inr rfl)];clear HJ av ak;rcases aa with rfl|rfl|rfl|rfl|rfl
  all_goals
   go_enter Tryz.func166,Tryz.ntmps166
   go_wp2_with fail
   refine bodyPost_ret (v:=.tuple #[.slice none 0 0,.int .i64 7]) (by simp[results,Tryz.results166,go_sem]) rfl ?_;exact Tg (ax.out.alloc ax.out.size _) _
 rw[av.out rfl rfl];clear av ak;rcases aa with rfl|rfl|rfl|rfl|rfl
 all_goals
  go_enter Tryz.func166,Tryz.ntmps166
  go_wp2_with fail
  refine(HJ.out _ (w.heap.size+1+1) aJ.out (by simp[hz])).mono ?_;rintro e w6 ⟨v6,rfl,aA,aD⟩;have aK:=hid aA;have aL:=hid aD;clear aA aD
  go_wp2_with fail
  refine bodyPost_ret (v:=.tuple #[v6,.int .i64 0]) (by simp[results,Tryz.results166,go_sem]) rfl ?_;exact⟨v6,rfl,aK.out,aL.out⟩
