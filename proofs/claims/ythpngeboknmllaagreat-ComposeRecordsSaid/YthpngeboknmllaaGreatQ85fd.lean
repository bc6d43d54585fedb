/- T -/
import Derived.Test.YthpngeboknmllaaGreatQ2285
import Derived.Test.YthpngeboknmllaaGreatQ5fbc
import Derived.Test.YthpngeboknmllaaGreatQ7167
import Derived.Test.YthpngeboknmllaaGreatQ6724
import Derived.Lib.LazyBuf
import Derived.ProofKit
import Derived.OpenShut
import Derived.Carry
set_option linter.unusedVariables false
set_option linter.unusedSimpArgs false
set_option maxHeartbeats 4000000
set_option maxRecDepth 100000
namespace Go.Proofs.YthpngeboknmllaaGreat
open Go.RowKit
def QO (w:World) (b:Bool) (L:List (List Int)) (e:Ending) (w':World):Prop :=
 Below w.heap.size w w'/\((b=false/\e=.returned (.tuple #[.slice none 0 0,.int .i64 1]))\/(b=true/\∃v,e=.returned (.tuple #[v,.int .i64 0])/\Yg w' w.heap.size L v))
theorem zNx (t:Z9) (A:Option Addr) (cap:Nat) (w:World) (hv:Z8 Z6 w (Lt w.heap.size) t.kids (.slice A t.kids.length cap)) (ah:t.text.size<=maxLen) (ak:ZR t<=900000) :
  Calls Tryz.prog 67 #[.agg #[.int .i64 t.kind,.string t.text,.int .i64 t.cols,.slice A t.kids.length cap]] w (QO w (ZU t) (ZJ [] t)):=by
 have af:Hid (Below w.heap.size w (w.alloc (Obj.cells #[.int .i64 t.kind,.string t.text,.int .i64 t.cols,.slice A t.kids.length cap] 24))):=XM _ _;have C1:Hid (∀W,Below w.heap.size w W->Calls Tryz.prog 29 #[.agg #[.int .i64 t.kind,.string t.text,.int .i64 t.cols,.slice A t.kids.length cap]] W fun e w'=>e=.returned (.bool (ZU t))/\Below W.heap.size W w'):=fun W hW=>QN t A cap W (hv.below hW hW.size) ah (by omega)
 have C2:Hid (∀W,Below w.heap.size w W->Calls Tryz.prog 106 #[.agg #[.int .i64 t.kind,.string t.text,.int .i64 t.cols,.slice A t.kids.length cap],.slice none 0 0] W (zIy W (ZJ [] t))) :=
  fun W hW=>Ui t [] A none cap 0 W (hv.below hW hW.size) (Z8.nil_ 0 (by simp) none) (by simp;omega)
 have KB:Hid (∀W,Below (w.alloc (Obj.cells #[.int .i64 t.kind,.string t.text,.int .i64 t.cols,.slice A t.kids.length cap] 24)).heap.size (w.alloc (Obj.cells #[.int .i64 t.kind,.string t.text,.int .i64 t.cols,.slice A t.kids.length cap] 24)) W->YS W w.heap.size t.kind t.cols t.text (.slice A t.kids.length cap)) :=
  fun W hW=>(YS.new w t.kind t.cols t.text _).below hW (by simp)
 generalize ZJ [] t=L at *;generalize ZU t=b at *;obtain⟨tk,tx,tc,ts⟩:=t;simp only[Z9.kind,Z9.text,Z9.cols,Z9.kids] at *;clear hv ah ak;cases b
 ·go_enter Tryz.func67,Tryz.ntmps67
  go_wp2_with fail
  refine(C1.out _ af.out).mono ?_;rintro e w1 ⟨rfl,aa⟩;have ae:=hid (af.out.trans (aa.mono af.out.size));clear aa
  go_wp2_with fail
  go_ret2
  exact⟨ae.out,.inl ⟨rfl,rfl⟩⟩
 go_enter Tryz.func67,Tryz.ntmps67
 go_wp2_with fail
 refine(C1.out _ af.out).mono ?_;rintro e w1 ⟨rfl,aa⟩;have ae:=hid (af.out.trans (aa.mono af.out.size));obtain⟨p0,p1,p2,p3⟩:=KB.out w1 aa;clear aa
 go_wp2_with fail
 refine(C2.out _ ae.out).mono ?_;rintro e w2 ⟨v2,rfl,ag,aj⟩;obtain⟨A2,c2,rfl⟩:=ag.rows.form;have au:=hid (ag.base ae.out.size);have av:=hid (ae.out.trans (aj.mono ae.out.size));clear ag aj p0 p1 p2 p3
 go_wp2_with fail
 go_ret2
 exact⟨av.out,.inr ⟨rfl,_,rfl,au.out⟩⟩
theorem zEt {B:Nat} {a w:World} (h:Below B a w) (n:Nat):Below B a (w.drewN n):=⟨h.os,h.tape,h.output,h.size,h.block⟩
theorem zQv {B:Nat} {a w:World} (h:Below B a w) (n m:Nat):Below B a ((w.drewN n).drewN m):=⟨h.os,h.tape,h.output,h.size,h.block⟩
def YT (l:List (List Int)) (p:List Int):Option Nat:=l.findIdx? (fun q=>decide (ZX q p=0))
theorem zQe (l:List (List Int)) (p:List Int) {k:Nat} (h:k<l.length) (hn:YT (l.take k) p=none) (hk:ZX l[k] p≠0):YT (l.take (k+1)) p=none:=by
 unfold YT at *;rw[List.findIdx?_eq_none_iff] at *;intro x hx;rw[List.take_succ_eq_append_getElem h,List.mem_append] at hx;rcases hx with hx|hx
 ·exact hn x hx
 simp only[List.mem_singleton] at hx;subst hx;simpa using hk
theorem Ta (l:List (List Int)) (p:List Int) {k:Nat} (h:k<l.length) (hn:YT (l.take k) p=none) (hk:ZX l[k] p=0):YT l p=some k:=by
 unfold YT at *;rw[List.findIdx?_eq_none_iff] at hn;rw[List.findIdx?_eq_some_iff_getElem];refine⟨h,by simpa using hk,fun j hj=>?_⟩;have:=hn (l[j]'(by omega)) (by rw[List.mem_iff_getElem];exact⟨j,by simp;omega,by simp⟩);simpa using this
theorem zIa (t:Z9) (p:List Int):(YT (ZJ [] t) p).isSome=ZO t p:=by
 rw[Bool.eq_iff_iff,<-zKj];unfold YT;rw[List.findIdx?_isSome,List.any_eq_true];constructor
 ·rintro ⟨q,hq,h⟩;have:q=p:=(zE8 _ _).1 (by simpa using h);rw[<-this];exact hq
 intro h;exact⟨p,h,by simp[zGf]⟩
def QS (w:World) (b:Bool) (L:List (List Int)) (p:List Int) (e:Ending) (w':World):Prop :=
 Below w.heap.size w w'/\((b=false/\e=.returned (.tuple #[.int .i64 0,.int .i64 1]))\/(b=true/\((YT L p=none/\e=.returned (.tuple #[.int .i64 0,.int .i64 2]))\/∃i:Nat,i<L.length/\YT L p=some i/\e=.returned (.tuple #[.int .i64 i,.int .i64 0]))))
theorem zNl (t:Z9) (h:ZR t<=900000):(ZJ [] t).length<=2000000:=by rw[zHl];have:=zKp t;omega
theorem zJa (t:Z9) (p:List Int) (A:Option Addr) (cap:Nat) (b:Value) (w:World) (hv:Z8 Z6 w (Lt w.heap.size) t.kids (.slice A t.kids.length cap)) (aj:t.text.size<=maxLen) (ah:ZR t<=900000) (hp:Z0 w (Lt w.heap.size) p b) :
  Calls Tryz.prog 31 #[.agg #[.int .i64 t.kind,.string t.text,.int .i64 t.cols,.slice A t.kids.length cap],b] w (QS w (ZU t) (ZJ [] t) p):=by
 have ae:Hid (Below w.heap.size w (w.alloc (Obj.cells #[.int .i64 t.kind,.string t.text,.int .i64 t.cols,.slice A t.kids.length cap] 24))):=XM _ _;have C1:=hid (zNx t A cap _ (hv.below ae.out ae.out.size) aj ah);have HP:Hid (∀W,Below w.heap.size w W->Z0 W (Lt W.heap.size) p b):=fun W h=>hp.below h h.size
 have HL:=zNl t ah;obtain⟨A',cap',rfl⟩:=hp.form;generalize ZJ [] t=L at *;generalize ZU t=b at *;obtain⟨tk,tx,tc,ts⟩:=t;simp only[Z9.kind,Z9.text,Z9.cols,Z9.kids] at *;clear hv aj ah hp;go_enter Tryz.func31,Tryz.ntmps31
 go_wp2_with fail
 refine C1.out.mono ?_;rintro e w1 ⟨ag,(⟨rfl,rfl⟩|⟨rfl,v,rfl,hr⟩)⟩
 ·have aa:=hid (ae.out.trans (ag.mono ae.out.size));clear ag
  go_wp2_with fail
  go_ret2
  exact⟨aa.out,.inl ⟨rfl,rfl⟩⟩
 have aa:=hid (ae.out.trans (ag.mono ae.out.size));obtain⟨A2,c2,rfl⟩:=hr.rows.form;have HR:=hid hr.rowsLt;clear ag hr
 go_wp2_with fail
 go_loopw [8] (fun i wr=>(∃n,wr=w1.drewN n)/\∃k:Nat,k<=L.length/\i=.int .i64 k/\YT (L.take k) p=none) (fun i _=>L.length-(intOf i).toNat)
 case atStart=>exact⟨⟨0,rfl⟩,0,Qj _,rfl,by simp[YT]⟩
 obtain⟨⟨n,rfl⟩,k,hk,rfl,au⟩:=hrel;have HN:=hid au;clear au;rcases Nat.lt_or_ge k L.length with af|ay
 ·obtain⟨_,_,rs,hq,_,_,ak,av⟩:=HR.out;cases hq;obtain⟨g,o,A3,c3,ax,rfl,hg,q0,h5,h6,h7,h8⟩:=zJ5 ak av af;have HC:Hid (Calls Tryz.prog 50 #[.slice A3 L[k].length c3,.slice A' p.length cap'] (w1.drewN n) fun e w'=>e=.returned (.int .i64 (ZX L[k] p))/\∃m,w'=(w1.drewN n).drewN m) :=
   zIn L[k] p (w1.drewN n) _ _ (Lt w1.heap.size) (Lt (w1.drewN n).heap.size) (Z8.keep (w:=w1) (E:=ZA) ⟨_,_,ax,rfl,h5,h6,h7,h8⟩ (fun _ _=>rfl) (fun _ h=>h)) (HP.out _ (zEt aa.out n))
  have HLK:Hid (∃z,z=L[k]):=⟨_,rfl⟩;clear ak av h7 h8;by_cases hc:ZX L[k] p=0
  ·have HI:=hid (Ta L p af HN.out hc);have d0:(ZX L[k] p==0)=true:=by simpa using hc
   rw[hc] at HC;clear hc d0
   go_wp2_with fail
   refine HC.out.mono ?_;rintro e w2 ⟨rfl,m,rfl⟩
   go_wp2_with fail
   go_ret2
   refine⟨by first|exact zEt aa.out _|exact zQv aa.out _ _,.inr ⟨rfl,.inr ⟨k,af,HI.out,rfl⟩⟩⟩
  have HI:=hid (zQe L p af HN.out hc);have d0:(ZX L[k] p==0)=false:=by simpa using hc
  clear hc
  go_wp2_with fail
  refine HC.out.mono ?_;rintro e w2 ⟨rfl,m,rfl⟩
  go_wp2_with fail
  go_roundw
  case rel=>exact⟨by first|exact⟨_,rfl⟩|(simp only[World.drewN_drewN];exact⟨_,rfl⟩),k+1,by omega,by go_num,HI.out⟩
  case measure=>simp[intOf];omega
 have HF:Hid (YT L p=none):=by have:=HN.out;rwa[List.take_of_length_le ay] at this
 go_wp2_with fail
 go_ret2
 exact⟨zEt aa.out _,.inr ⟨rfl,.inl ⟨HF.out,rfl⟩⟩⟩
theorem zI9 (t:Z9) (p:List Int) (A:Option Addr) (cap:Nat) (b:Value) (w:World) (hv:Z8 Z6 w (Lt w.heap.size) t.kids (.slice A t.kids.length cap)) (ag:t.text.size<=maxLen) (ah:ZR t<=900000) (hp:Z0 w (Lt w.heap.size) p b) :
  Calls Tryz.prog 11 #[.agg #[.int .i64 t.kind,.string t.text,.int .i64 t.cols,.slice A t.kids.length cap],b] w fun e w'=>e=.returned (.bool (ZU t&&ZO t p))/\Below w.heap.size w w':=by
 have aa:Hid (Below w.heap.size w (w.alloc (Obj.cells #[.int .i64 t.kind,.string t.text,.int .i64 t.cols,.slice A t.kids.length cap] 24))):=XM _ _;have C1:=hid (zJa t p A cap b _ (hv.below aa.out aa.out.size) ag ah (hp.below aa.out aa.out.size));have HS:=hid (zIa t p);obtain⟨A',cap',rfl⟩:=hp.form;generalize ZO t p=b2 at *;generalize ZJ [] t=L at *;generalize ZU t=b at *;obtain⟨tk,tx,tc,ts⟩:=t;simp only[Z9.kind,Z9.text,Z9.cols,Z9.kids] at *;clear hv ag ah hp;go_enter Tryz.func11,Tryz.ntmps11
 go_wp2_with fail
 refine C1.out.mono ?_;rintro e w1 ⟨ae,(⟨rfl,rfl⟩|⟨rfl,(⟨h1,rfl⟩|⟨i,h0,h1,rfl⟩)⟩)⟩
 ·have af:=hid (aa.out.trans (ae.mono aa.out.size));clear ae
  go_wp2_with fail
  go_ret;exact⟨rfl,af.out⟩
 ·have af:=hid (aa.out.trans (ae.mono aa.out.size));have HF:Hid (b2=false):=by show _=_;rw[<-HS.out,h1];rfl
  clear ae h1
  go_wp2_with fail
  go_ret;exact⟨by rw[HF.out];rfl,af.out⟩
 have af:=hid (aa.out.trans (ae.mono aa.out.size));have HF:Hid (b2=true):=by show _=_;rw[<-HS.out,h1];rfl
 clear ae h1 h0
 go_wp2_with fail
 go_ret;exact⟨by rw[HF.out];rfl,af.out⟩
mutual
theorem zH0:(t:Z9)->(m:Int)->0<=Wq t m->Wq t m=m-ZR t
 |
  .mk _ _ _ ts,m,h=>by
  rw[Wq] at h ⊢
  rw[ZR,zG1 ts (m-1) h];omega
theorem zG1:(ts:List Z9)->(m:Int)->0<=Xm ts m->Xm ts m=m-ZQ ts
 |[],m,h=>by rw[Xm,ZQ];omega
 |
  t::ts,m,h=>by
  rw[Xm] at h ⊢
  split at h
  ·rename_i h0
   rw[if_pos h0]
   have h1:=zG1 ts (Wq t m) h
   have h2:=zH0 t m (by omega)
   rw[h1,h2,ZQ];omega
  rename_i h0;omega
end
theorem zLw {t:Z9} {m:Int} (h:X4 t m=true):(ZR t:Int)<=m:=by
 unfold X4 at h;have h':0<=Wq t m:=by simpa using h
 have:=zH0 t m h';omega
def Xi (b1 b2 b3:Bool) (r:List Int×Int×Int):(List Int×Int×Int)×Int:=if b1=false then (([],0,0),1) else if (b2&&b3)=false then (([],0,0),2) else (r,0)
def Ub (w:World) (x:(List Int×Int×Int)×Int) (e:Ending) (w':World):Prop :=
 ∃v,e=.returned (.tuple #[.agg #[v,.int .i64 x.1.2.1,.int .i64 x.1.2.2],.int .i64 x.2])/\Z0 w' (fun k=>w.heap.size<=k/\k<w'.heap.size) x.1.1 v/\Below w.heap.size w w'
theorem zG5.v {w w':World} {b1 b2 b3:Bool} {r:List Int×Int×Int} {e:Ending} (h:zG5 w b1 b2 b3 r e w'):Ub w (Xi b1 b2 b3 r) e w':=by
 obtain⟨hb,(⟨rfl,rfl⟩|⟨rfl,h2,rfl⟩|⟨rfl,rfl,rfl,v,rfl,hi⟩)⟩:=h
 ·exact⟨_,rfl,Z8.nil_ 0 (by simp) none,hb⟩
 ·unfold Xi;rw[if_neg (by simp),if_pos h2];exact⟨_,rfl,Z8.nil_ 0 (by simp) none,hb⟩
 exact⟨v,rfl,hi,hb⟩
def YQ (b1 b2:Bool):Int:=if b1 then (if b2 then 0 else 2) else 1
theorem zL9 (t:Z9) (p:List Int) (A:Option Addr) (cap:Nat) (b:Value) (w:World) (hv:Z8 Z6 w (Lt w.heap.size) t.kids (.slice A t.kids.length cap)) (ag:t.text.size<=maxLen) (hp:Z0 w (Lt w.heap.size) p b) :
  Calls Tryz.prog 117 #[.agg #[.int .i64 t.kind,.string t.text,.int .i64 t.cols,.slice A t.kids.length cap],b] w fun e w'=>e=.returned (.int .i64 (YQ (ZU t) (ZO t p)))/\Below w.heap.size w w':=by
 have aj:Below w.heap.size w (w.alloc (Obj.cells #[.int .i64 t.kind,.string t.text,.int .i64 t.cols,.slice A t.kids.length cap] 24)):=WI _ _;have ae:=hid aj;have C1:Hid (∀W,Below w.heap.size w W->Calls Tryz.prog 53 #[.agg #[.int .i64 t.kind,.string t.text,.int .i64 t.cols,.slice A t.kids.length cap]] W fun e w'=>e=.returned (.bool (ZU t))/\Below W.heap.size W w'):=fun W hW=>Wh t A cap W (hv.below hW hW.size) ag
 have C2:Hid (∀W,Below w.heap.size w W->Calls Tryz.prog 145 #[.agg #[.int .i64 t.kind,.string t.text,.int .i64 t.cols,.slice A t.kids.length cap],b] W fun e w'=>e=.returned (.bool (ZO t p))/\Below W.heap.size W w'):=fun W hW=>UR t p A cap b W (hv.below hW hW.size) ag (hp.below hW hW.size)
 have KB:Hid (∀W,Below (w.alloc (Obj.cells #[.int .i64 t.kind,.string t.text,.int .i64 t.cols,.slice A t.kids.length cap] 24)).heap.size (w.alloc (Obj.cells #[.int .i64 t.kind,.string t.text,.int .i64 t.cols,.slice A t.kids.length cap] 24)) W->YS W w.heap.size t.kind t.cols t.text (.slice A t.kids.length cap)) :=
  fun W hW=>(YS.new w t.kind t.cols t.text _).below hW (by simp)
 obtain⟨A',cap',rfl⟩:=hp.form;generalize ZO t p=b2 at *;generalize ZU t=b1 at *;obtain⟨tk,tx,tc,ts⟩:=t;simp only[Z9.kind,Z9.text,Z9.cols,Z9.kids] at *;clear hv ag hp aj;cases b1
 ·go_enter Tryz.func117,Tryz.ntmps117
  go_wp2_with fail
  refine(C1.out _ ae.out).mono ?_;rintro e w1 ⟨rfl,aa⟩;have af:=hid (ae.out.trans (aa.mono ae.out.size));clear aa
  go_wp2_with fail
  go_ret;exact⟨rfl,af.out⟩
 go_enter Tryz.func117,Tryz.ntmps117
 go_wp2_with fail
 refine(C1.out _ ae.out).mono ?_;rintro e w1 ⟨rfl,aa⟩;have af:=hid (ae.out.trans (aa.mono ae.out.size));obtain⟨p0,p1,p2,p3⟩:=KB.out w1 aa;clear aa
 go_wp2_with fail
 refine(C2.out _ af.out).mono ?_;rintro e w2 ⟨rfl,ah⟩;have ak:=hid (af.out.trans (ah.mono af.out.size));clear ah p0 p1 p2 p3;cases b2
 all_goals
  go_wp2_with fail
  go_ret;exact⟨rfl,ak.out⟩
def zIt (w:World) (r:List Int×Int) (e:Ending) (w':World):Prop :=
 Below w.heap.size w w'/\∃v,e=.returned (.tuple #[v,.int .i64 r.2])/\Z0 w' (fun k=>w.heap.size<=k/\k<w'.heap.size) r.1 v
end Go.Proofs.YthpngeboknmllaaGreat
namespace Go.Proofs.YthpngeboknmllaaGreat
open Go Go.RowKit Go.Shelf
attribute [local go_sem] Oper.semAt_some
theorem zH7 {w w':World} {S S':Nat->Prop} {xs:List Int} {v:Value} (h:Z0 w S xs v) (hk:∀a u,w.cell? a=some u->w'.cell? a=some u) (hS:∀k,S k->S' k):Z0 w' S' xs v:=by
 obtain⟨A,cap,cs,rfl,h1,h2,h3,h4⟩:=h;refine⟨A,cap,cs,rfl,h1,h2,fun hn=>?_,Ws.2 (Ws.1 h4)⟩;obtain⟨g,o,e,hb,hc⟩:=h3 hn;exact⟨g,o,e,hS _ hb,fun j u hu=>hk _ _ (hc j u hu)⟩
theorem zMr (n1:Nat) (x:ZF) (W:World) (l:Nat) (o o':Obj) (h:W.heap[l]?=some o) (ho:o.isCells=false) (hx:PRd n1 x W):PRd n1 x (W.putObj l o') :=
 zH7 hx (fun a u hu=>cell_kept hu (grownBy_putObj' W l o') (fun r e=>by cases e;exact⟨o,h,ho⟩)) (fun k hk=>⟨hk.1,by simpa using hk.2⟩)
theorem Ve (V:World->Nat->Prop) (n1:Nat) (x:ZF) (W:World) (l:Nat) (o o':Obj) (hb:Y8 V W (W.putObj l o')) (h:W.heap[l]?=some o) (ho:o.isCells=false) (hx:Uh V n1 x W):Uh V n1 x (W.putObj l o') :=
 zH7 hx (fun a u hu=>cell_kept hu (grownBy_putObj' W l o') (fun r e=>by cases e;exact⟨o,h,ho⟩)) (fun k hk=>⟨hk.1,by simpa using hk.2.1,fun e=>hk.2.2 (hb.less k hk.2.1 e)⟩)
theorem zF1 {n1:Nat} {xl:List Int} {xv:Value} {W:World} (h:PRd n1 (xl,xv) W):∃A c,xv=.slice A xl.length c/\Z0 W (fun k=>n1<=k/\k<W.heap.size) xl (.slice A xl.length c):=by
 obtain⟨A,c,e⟩:=Z8.form h
 dsimp only at e
 subst e;exact⟨A,c,rfl,h⟩
theorem zMt {β:Type} (B:Nat) (a:Addr) (f:β->Value):OwnFrom B (fun (pre:β) W=>W.cell? a=some (f pre)/\W.frozen? a=false) :=
 Own.from (fun s A C row hs hg hr=>⟨cell_kept hs.1 hg hr,(frozen_kept hs.1 hg hr).trans hs.2⟩) B
theorem zN0 {β:Type} (B:Nat) (a:Addr) (f:β->Value):OwnFrom B (fun (pre:β) W=>W.cell? a=some (f pre)) :=
 Own.from (I:=fun (pre:β) W=>W.cell? a=some (f pre)) (fun s A C row hs hg hr=>cell_kept hs hg hr) B
theorem zKq {W:World} {a:Addr} {v:Value} (h:W.cell? a=some v) (o:Obj):(W.alloc o).cell? a=some v:=cell_kept h (World.grownBy_alloc W o none) (fun r e=>by cases e)
theorem zIb {W:World} {a:Addr} {v:Value} (h:W.cell? a=some v/\W.frozen? a=false) (o:Obj):(W.alloc o).cell? a=some v/\(W.alloc o).frozen? a=false :=
 ⟨zKq h.1 o,(frozen_kept h.1 (World.grownBy_alloc W o none) (fun r e=>by cases e)).trans h.2⟩
theorem zHk {W:World} {a:Addr} {v:Value} {D:Nat} {o:Obj} (h:W.cell? a=some v) (o':Obj) (hD:W.heap[D]?=some o) (ho:o.isCells=false):(W.putObj D o').cell? a=some v :=
 cell_kept h (grownBy_putObj' W D o') (fun r e=>by cases e;exact⟨o,hD,ho⟩)
theorem zEf {W:World} {q a:Addr} (v:Value) (_:True) (h:q.block≠a.block):(W.setCell a v).cell? q=W.cell? q:=World.cell?_of_block (Below.heap_setCell W a v q.block h)
theorem zKf {β:Type} (B n1:Nat) (f:β->List Int) (g:β->Value):OwnFrom B (fun (pre:β) W=>Z0 W (fun k=>n1<=k/\k<W.heap.size) (f pre) (g pre)) :=
 Own.from (I:=fun (pre:β) W=>Z0 W (fun k=>n1<=k/\k<W.heap.size) (f pre) (g pre)) (fun s A C row hs hg hr=>zH7 hs (fun a u hu=>cell_kept hu hg hr) (fun k hk=>⟨hk.1,Qk hk.2 hg.size⟩)) B
theorem zNz {β:Type} (B:Nat) (p:β->Prop):OwnFrom B (fun (pre:β) _=>p pre):=fun _ _ _ _ hs _ _=>hs
def VP (n0 n2 N:Nat) (k:Nat):Prop:=(n0<=k/\k<n2)\/(N<=k/\k<N+2)
theorem zMs (V:World->Nat->Prop) (t:Z9) (n0 Bn:Nat) (A:Option Addr) (cap:Nat) (w:World) (hn:n0<=Bn) (ah:Bn<w.heap.size) (hc:w.cell? ⟨Bn,3,none⟩=some (.slice A t.kids.length cap))
  (hV:∀W k,Below w.heap.size w W->V W k->n0<=k/\k≠Bn)
  (hv:Z8 Z6 w (Lt n0) t.kids (.slice A t.kids.length cap)) (af:ZR t<=400000) :
  RO Tryz.prog 146 #[.pointer (some ⟨Bn,0,none⟩)] (fun x:ZF=>x.2) (Uh V (w.heap.size+2)) (Y8 V) (Gdv V) (fun xs=>xs.map Prod.fst=ZJ [] t) (fun pre=>pre.map Prod.fst <+: ZJ [] t) w:=by
 intro l J Jx W hW ae hJ ag aa hY h0;have HV:=zPd l (w.heap.size+2) V (ZJ [] t) J Jx aa hJ ag hY t [] Bn 0 A none cap 0 [] [] W (by rw[Nat.zero_add];exact(hW.cell (p:=⟨Bn,3,none⟩) ah).trans hc)
  ⟨by have:=hW.size;omega,fun e=>(hV W Bn hW e).2 rfl⟩ ((hv.below (hW.mono (by omega)) (Qi _)).wide fun k hk=>⟨by have:=hW.size;unfold Lt at hk;omega,fun e=>by have:=(hV W k hW e).1;unfold Lt at hk;omega⟩) (Z8.nil_ 0 (by simp[maxLen]) none) (by simp;omega) ae h0 (by simp)
 simp only[List.length_nil] at HV;have HH:Hid (CallsIn Fence.wide 0 Tryz.prog 147 #[.pointer (some ⟨Bn,0,none⟩),.slice none 0 0,.func (.yield l) #[] #[]] W (Qm (ZJ [] t) (ZJ [] t) V J Jx [] W)):=HV;clear HV hY h0 hW hc hv hV aa;refine callsIn_of_wp Tryz.func146 rfl trivial ?_ rfl;simp only[Tryz.ntmps146,List.size_toArray,List.length_cons,List.length_nil,Nat.reduceAdd,Nat.reduceSub,Array.replicate_succ,Array.replicate_zero,List.push_toArray,List.append_toArray,List.nil_append,List.cons_append]
 gi_wp2_with (refine⟨trivial,rfl,?_⟩;gi_at_call 147;refine HH.out.mono ?_;rintro e W1 (⟨rfl,xs,hx,hj,_⟩|⟨rfl,q,hq,hj⟩))
 ·go_end0
  exact⟨⟨_,rfl⟩,.inl ⟨xs,hx,by simpa using hj⟩⟩
 go_end0
 exact⟨⟨_,rfl⟩,.inr ⟨q,by simpa using hq,by simpa using hj⟩⟩
theorem zJe (vs:Array Value) (h4:∃a b c d,vs=#[a,b,c,d]) (w:World) (n:Nat) :
  CallsIn Fence.wide n Tryz.prog 118 #[.agg vs] w fun e w'=>e=.returned (.func (.func 146) #[] #[.pointer (some ⟨w.heap.size,0,none⟩)])/\w'=w.alloc (.cells vs 24):=by
 obtain⟨a,b,c,d,rfl⟩:=h4;refine callsIn_of_wp Tryz.func118 rfl trivial ?_ rfl;simp only[Tryz.ntmps118,List.size_toArray,List.length_cons,List.length_nil,Nat.reduceAdd,Nat.reduceSub,Array.replicate_succ,Array.replicate_zero,List.push_toArray,List.append_toArray,List.nil_append,List.cons_append]
 gi_wp2
 go_ret;exact⟨rfl,rfl⟩
theorem zKt {g:Operand} {p:Tmp} (q:Tmp) {assign body:Code} {Q:Exit->Act->World->Prop} {a:Act} {w:World} (V:World->Nat->Prop) (t:Z9) (n0 Bn:Nat) (A:Option Addr) (cap:Nat)
  (hg:a.eval g=.func (.func 146) #[] #[.pointer (some ⟨Bn,0,none⟩)]) (hn:n0<=Bn) (av:Bn<w.heap.size) (hc:w.cell? ⟨Bn,3,none⟩=some (.slice A t.kids.length cap))
  (hV:∀W k,Below w.heap.size w W->V W k->n0<=k/\k≠Bn)
  (hv:Z8 Z6 w (Lt n0) t.kids (.slice A t.kids.length cap)) (ah:ZR t<=400000)
  (aj:∀(W:World) (l:Nat) (o o':Obj),w.heap.size<=l->l<w.heap.size+2->W.heap[l]?=some o->o.isCells=false->Y8 V W (W.putObj l o'))
  (I:List ZF->World->Prop) (Ix:Code->List ZF->World->Prop) (hI:OwnFrom w.heap.size I) (au:∀s A,I s A->w.heap.size+2<=A.heap.size->Gdv V A) (ak:∀c,OwnFrom w.heap.size (Ix c)) (h0:I [] w)
  (aa:∀(l:Nat) (x:ZF) (W:World) (K:Act->World->Prop),K { tmps:=(a.tmps.setIfInBounds p x.2).setIfInBounds q x.2,defers:=[] } W ->
   assign.wpIn (Fence.wide.inRound l) 0 Tryz.prog (Exit.then K (fun _ _ _=>False)) { tmps:=a.tmps.setIfInBounds p x.2,defers:=[] } W)
  (ag:∀(l:Nat) (pre:List ZF) (x:ZF) (W:World),I pre W->Uh V (w.heap.size+2) x W->(pre++[x]).map Prod.fst <+: ZJ [] t->body.wpIn (Fence.wide.inRound l) 0 Tryz.prog (ownPostK (Y8 V) I Ix (pre++[x]) W) { tmps:=(a.tmps.setIfInBounds p x.2).setIfInBounds q x.2,defers:=[] } W)
  (af:∀(D:Nat) (xs:List ZF) (W:World),w.heap.size<=D->xs.map Prod.fst=ZJ [] t->I xs W->W.heap[D]?=some (.deferred (some []))->Q .normal { a with defers:={ target:=.collected D,args:=#[] }::a.defers } W)
  (ae:∀(D:Nat) (c:Code) (pre:List ZF) (W:World),w.heap.size<=D->pre.map Prod.fst <+: ZJ [] t->Ix c pre W->W.heap[D]?=some (.deferred (some []))->c.wpIn Fence.wide 0 Tryz.prog Q { a with defers:={ target:=.collected D,args:=#[] }::a.defers } W) :
  (Code.rangeFunc g #[p] assign body).wpIn Fence.wide 0 Tryz.prog Q a w :=
 zJz hg (enters_of Tryz.func146 (by kernel_rfl) rfl) (zMs V t n0 Bn A cap w hn av hc hV hv ah) (fun _ _ _ h k=>h.trans k)
  aj (fun x W l o o' h0 h1 h2 h3 h4=>Ve V _ x W l o o' (aj W l o o' h0 h1 h2 h3) h2 h3 h4) I Ix hI au ak h0 (fun x=>{ tmps:=(a.tmps.setIfInBounds p x.2).setIfInBounds q x.2,defers:=[] }) aa ag af ae
theorem zHm {g:Operand} {p:Tmp} (q:Tmp) {assign body:Code} {Q:Exit->Act->World->Prop} {a:Act} {w:World} (t:Z9) (n0 n2 Bn:Nat) (A:Option Addr) (cap:Nat)
  (hg:a.eval g=.func (.func 146) #[] #[.pointer (some ⟨Bn,0,none⟩)]) (hn:n0<=n2) (hn2:n2<=Bn) (ak:Bn<w.heap.size) (hc:w.cell? ⟨Bn,3,none⟩=some (.slice A t.kids.length cap))
  (hv:Z8 Z6 w (Lt n0) t.kids (.slice A t.kids.length cap)) (ah:ZR t<=400000)
  (I:List ZF->World->Prop) (Ix:Code->List ZF->World->Prop) (hI:OwnFrom w.heap.size I) (aj:∀c,OwnFrom w.heap.size (Ix c)) (h0:I [] w)
  (aa:∀(l:Nat) (x:ZF) (W:World) (K:Act->World->Prop),K { tmps:=(a.tmps.setIfInBounds p x.2).setIfInBounds q x.2,defers:=[] } W ->
   assign.wpIn (Fence.wide.inRound l) 0 Tryz.prog (Exit.then K (fun _ _ _=>False)) { tmps:=a.tmps.setIfInBounds p x.2,defers:=[] } W)
  (ag:∀(l:Nat) (pre:List ZF) (x:ZF) (W:World),I pre W->PRd (w.heap.size+2) x W->(pre++[x]).map Prod.fst <+: ZJ [] t->body.wpIn (Fence.wide.inRound l) 0 Tryz.prog (ownPostK (Y8 (fun _=>VP n0 n2 w.heap.size)) I Ix (pre++[x]) W) { tmps:=(a.tmps.setIfInBounds p x.2).setIfInBounds q x.2,defers:=[] } W)
  (af:∀(D:Nat) (xs:List ZF) (W:World),w.heap.size<=D->xs.map Prod.fst=ZJ [] t->I xs W->W.heap[D]?=some (.deferred (some []))->Q .normal { a with defers:={ target:=.collected D,args:=#[] }::a.defers } W)
  (ae:∀(D:Nat) (c:Code) (pre:List ZF) (W:World),w.heap.size<=D->pre.map Prod.fst <+: ZJ [] t->Ix c pre W->W.heap[D]?=some (.deferred (some []))->c.wpIn Fence.wide 0 Tryz.prog Q { a with defers:={ target:=.collected D,args:=#[] }::a.defers } W) :
  (Code.rangeFunc g #[p] assign body).wpIn Fence.wide 0 Tryz.prog Q a w :=
 zKt q (fun _=>VP n0 n2 w.heap.size) t n0 Bn A cap hg (by omega) ak hc (fun W k _ h=>by unfold VP at h;omega) hv ah (fun W l o o' h1 h2 _ _=>Y8.putObj W l o' (.inr ⟨h1,h2⟩)) I Ix hI
  (fun s A _ hs W' _ k hk=>⟨hk,by unfold VP at hk;omega⟩) aj h0 aa (fun l pre x W h1 h2 h3=>ag l pre x W h1 (Z8.wide h2 fun k hk=>⟨hk.1,hk.2.1⟩) h3) af ae
attribute [local go_sem] Oper.semAt_some
def Rm (L:List (List Int)) (p:List Int):Option (List Int):=L.find? (fun q=>decide (0<ZX q p))
def Rl (t:Z9) (p:List Int):List Int×Int :=
 if YQ (ZU t) (ZO t p)=0 then (match Rm (ZJ [] t) p with|some q=>(q,0)|none=>([],8)) else ([],YQ (ZU t) (ZO t p))
theorem UH {L:List (List Int)} {pre:List ZF} {x:ZF} (f:List Int->Bool) (h:(pre++[x]).map Prod.fst <+: L) (h1:∀y∈pre,f y.1=false) (h2:f x.1=true):L.find? f=some x.1:=by
 obtain⟨r,rfl⟩:=h;rw[List.find?_append,List.map_append,List.find?_append];have:(pre.map Prod.fst).find? f=none:=by rw[List.find?_eq_none];intro q hq;obtain⟨y,hy,rfl⟩:=List.mem_map.1 hq;simp[h1 y hy]
 rw[this];simp[h2]
theorem zQh {L:List (List Int)} {pre:List ZF} (f:List Int->Bool) (h:pre.map Prod.fst=L) (h1:∀y∈pre,f y.1=false):L.find? f=none:=by
 subst h;rw[List.find?_eq_none];intro q hq;obtain⟨y,hy,rfl⟩:=List.mem_map.1 hq;simp[h1 y hy]
theorem U2 (t:Z9) (p:List Int) (A:Option Addr) (cap:Nat) (b:Value) (w:World) (hv:Z8 Z6 w (Lt w.heap.size) t.kids (.slice A t.kids.length cap)) (aQ:t.text.size<=maxLen) (hp:Z0 w (Lt w.heap.size) p b) :
  Calls Tryz.prog 89 #[.agg #[.int .i64 t.kind,.string t.text,.int .i64 t.cols,.slice A t.kids.length cap],b] w (zIt w (Rl t p)):=by
 obtain⟨Ap,cp,rfl⟩:=hp.form;have aC:∃W4,W4=(((w.alloc (Obj.cells #[.int .i64 t.kind,.string t.text,.int .i64 t.cols,.slice A t.kids.length cap] 24)).alloc (.cells #[.slice Ap p.length cp] 25)).alloc (.cells #[.slice none 0 0] 25)).alloc (.cells #[.int .i64 0] 36):=⟨_,rfl⟩;obtain⟨W4,ax⟩:=aC;have ag:Below w.heap.size w W4:=by rw[ax];exact((((Qg _ w).alloc (Qi _) _).alloc (by simp) _).alloc (by simp;omega) _).alloc (by simp;omega) _
 have ay:W4.heap.size=w.heap.size+4:=by rw[ax];simp
 have aG:=hid ag;have aD:Hid (Calls Tryz.prog 117 #[.agg #[.int .i64 t.kind,.string t.text,.int .i64 t.cols,.slice A t.kids.length cap],.slice Ap p.length cp] W4 fun e w'=>e=.returned (.int .i64 (YQ (ZU t) (ZO t p)))/\Below W4.heap.size W4 w') :=
  zL9 t p A cap _ W4 (hv.below ag ag.size) aQ (hp.below ag ag.size)
 have aL:Hid (w.heap.size+1+1+1<W4.heap.size):=by rw[ay];show _<_;omega
 have KB:Hid (∀W,Below W4.heap.size W4 W->YS W w.heap.size t.kind t.cols t.text (.slice A t.kids.length cap)/\W.cell? ⟨w.heap.size+1,0,none⟩=some (.slice Ap p.length cp) /\
   (W.cell? ⟨w.heap.size+1+1,0,none⟩=some (.slice none 0 0)/\W.frozen? ⟨w.heap.size+1+1,0,none⟩=false)/\(W.cell? ⟨w.heap.size+1+1+1,0,none⟩=some (.int .i64 0)/\W.frozen? ⟨w.heap.size+1+1+1,0,none⟩=false)):=by
  intro W hW;have hc:=(bcell hW).1;have hf:=(bcell hW).2;rw[ay] at hc hf;unfold YS;rw[hc _ _ (by omega),hc _ _ (by omega),hc _ _ (by omega),hc _ _ (by omega),hc _ _ (by omega),hc _ _ (by omega),hc _ _ (by omega),hf _ _ (by omega),hf _ _ (by omega),ax];go_simp
 have bu:Hid (∀W,Below w.heap.size w W->Z8 Z6 W (Lt w.heap.size) t.kids (.slice A t.kids.length cap)):=fun W h=>hv.below h (Qi _)
 have bC:Hid (∀W,Below w.heap.size w W->Z0 W (Lt w.heap.size) p (.slice Ap p.length cp)):=fun W h=>hp.below h (Qi _)
 have bz:Hid (ZU t=true->ZR t<=400000):=fun h=>by have:=(Yb h).1;omega
 have HS4:=hid ay;have aC:=hid ax;have hwf:=aL.out;clear hv hp ag ay aQ ax;by_cases af:YQ (ZU t) (ZO t p)=0
 ·have av:ZU t=true/\ZO t p=true:=by
   unfold YQ at af;cases h1:ZU t<;>cases h2:ZO t p<;>simp_all
  have ak:=bz.out av.1;have aM:=hid ak;have HR:Hid (Rl t p=(match Rm (ZJ [] t) p with|some q=>(q,0)|none=>([],8))):=by show _=_;rw[Rl,if_pos af]
  rw[af] at aD;generalize hL:ZJ [] t=L at HR;have HL:=hid hL;obtain⟨r,hr⟩:∃r,r=((match Rm L p with|some q=>(q,0)|none=>([],8)):List Int×Int):=⟨_,rfl⟩;have bB:Hid (Rm L p=none->r=([],8)):=fun h=>by rw[hr,h]
  have bA:Hid (∀q,Rm L p=some q->r=(q,0)):=fun q h=>by rw[hr,h]
  rw[HR.out,<-hr];clear hr;have HPL:Hid (∀x∈L,x.length<=1000000):=by
   subst hL;intro x hx;have:=(zKd t x (zKj.1 hx)).1;have:=zDl t;omega
  obtain⟨tk,tx,tc,ts⟩:=t;simp only[Z9.kind,Z9.text,Z9.cols,Z9.kids] at *;clear av ak af hL HR;refine(callsIn_wide (n:=0)).1 ?_;refine callsIn_of_wp_marks Tryz.func89 rfl trivial ?_ rfl;simp only[Tryz.ntmps89,List.size_toArray,List.length_cons,List.length_nil,Nat.reduceAdd,Nat.reduceSub,Array.replicate_succ,Array.replicate_zero,List.push_toArray,List.append_toArray,List.nil_append,List.cons_append]
  gi_wp2_with fail
  rw[<-aC.out];refine⟨trivial,rfl,?_⟩;refine(callsIn_wide.2 aD.out).mono ?_;rintro e w1 ⟨rfl,ae⟩;have aF:=hid (aG.out.trans (ae.mono aG.out.size));have hz:w.heap.size+1+1+1<w1.heap.size:=Qk aL.out ae.size;obtain⟨⟨q0,bg,aZ,aY⟩,aO,⟨q2,f2⟩,⟨q3,f3⟩⟩:=KB.out w1 ae;clear ae
  gi_wp2_with (refine⟨trivial,rfl,?_⟩;gi_at_call 118;refine(zJe _ ⟨_,_,_,_,rfl⟩ _ _).mono ?_;rintro e w' ⟨rfl,rfl⟩)
  have bD:Hid ((w1.alloc (.cells #[.int .i64 tk,.string tx,.int .i64 tc,.slice A ts.length cap] 24)).cell? ⟨w1.heap.size,3,none⟩=some (.slice A ts.length cap)):=by show _=_;rw[World.cell?_alloc_new];rfl
  have aA:Below w.heap.size w (w1.alloc (.cells #[.int .i64 tk,.string tx,.int .i64 tc,.slice A ts.length cap] 24)):=aF.out.alloc aF.out.size _;have hz5:(w1.alloc (.cells #[.int .i64 tk,.string tx,.int .i64 tc,.slice A ts.length cap] 24)).heap.size=w1.heap.size+1:=by simp
  have aX:=zKq aO (.cells #[.int .i64 tk,.string tx,.int .i64 tc,.slice A ts.length cap] 24);have aW:=zIb ⟨q2,f2⟩ (.cells #[.int .i64 tk,.string tx,.int .i64 tc,.slice A ts.length cap] 24);have aV:=zIb ⟨q3,f3⟩ (.cells #[.int .i64 tk,.string tx,.int .i64 tc,.slice A ts.length cap] 24);generalize (w1.alloc (.cells #[.int .i64 tk,.string tx,.int .i64 tc,.slice A ts.length cap] 24))=W5 at *;clear q0 bg aZ aY aO q2 f2 q3 f3;refine zHm 7 (.mk tk tx tc ts) w.heap.size (w.heap.size+4) w1.heap.size A cap rfl (by omega) (by omega) (by omega) bD.out (bu.out _ aA) aM.out
   (fun pre W=>((∀y∈pre,ZX y.1 p<=0)/\Below w.heap.size w W)/\W.cell? ⟨w.heap.size+1,0,none⟩=some (.slice Ap p.length cp) /\
    (W.cell? ⟨w.heap.size+1+1,0,none⟩=some (.slice none 0 0)/\W.frozen? ⟨w.heap.size+1+1,0,none⟩=false)/\(W.cell? ⟨w.heap.size+1+1+1,0,none⟩=some (.int .i64 0)/\W.frozen? ⟨w.heap.size+1+1+1,0,none⟩=false))
   (fun c pre W=>(c=.ret/\∃q x,pre=q++[x]/\(∀y∈q,ZX y.1 p<=0)/\0<ZX x.1 p/\W.cell? ⟨w.heap.size+1+1,0,none⟩=some x.2/\W.cell? ⟨w.heap.size+1+1+1,0,none⟩=some (.int .i64 0)/\PRd (W5.heap.size+2) x W)/\Below w.heap.size w W)
   ?hI ?hIx ⟨⟨by simp,aA⟩,aX,aW,aV⟩ ?assign ?body ?done ?stop
  case hI=>exact OwnFrom.and (OwnFrom.and (zNz _ _) (ownFrom_below (Qi _) aA.size)) (OwnFrom.and (zN0 _ _ _) (OwnFrom.and (zMt _ _ _) (zMt _ _ _)))
  case hIx =>
   intro c;refine OwnFrom.and ?_ (ownFrom_below (Qi _) aA.size);rintro s A B row ⟨hc,q,x,hs,h1,h2,h3,h4,h5⟩ hg hr;exact⟨hc,q,x,hs,h1,h2,cell_kept h3 hg (fun r e=>(hr r e).2),cell_kept h4 hg (fun r e=>(hr r e).2),zKf _ (W5.heap.size+2) (fun _=>x.1) (fun _=>x.2) s A B row h5 hg hr⟩
  case assign =>
   intro l x W K hK
   gi_wp2
   exact hK
  case body =>
   rintro l pre ⟨xl,xv⟩ W ⟨⟨ah,hb⟩,hc1,⟨aT,aS⟩,az,aR⟩ hx aa;obtain⟨Ax,cx,rfl,hx⟩:=zF1 hx
   dsimp only
   have aU:=hid ah;have HB:=hid hb;have HX:=hid hx;have bn:w.heap.size+1+1+1<W.heap.size:=World.block_lt_of_cell? W _ az;have HC:Hid (Calls Tryz.prog 119 #[.slice Ax xl.length cx,.slice Ap p.length cp] W fun e w'=>e=.returned (.int .i64 (ZX xl p))/\W=w'):=RA xl p W (.slice Ax xl.length cx) _ _ _ hx (bC.out W hb);clear ah hb hx aa;by_cases aj:0<ZX xl p
   ·have dd:decide (0<ZX xl p)=true:=by simpa using aj
    have HG:=hid aj;have aK:decide (ZX xl p<=0)=false:=by simp;omega
    clear aj;generalize hq:ZX xl p=z at HC dd aK HG;have HZ:=hid hq;clear hq
    gi_wp2_with (refine⟨trivial,rfl,?_⟩;gi_at_call 119;refine(CallsIn.inRound l (callsIn_wide.2 HC.out)).mono ?_;rintro e w' ⟨rfl,rfl⟩)
    have r0:((W.setCell ⟨w.heap.size+1+1,0,none⟩ (.slice Ax xl.length cx)).setCell ⟨w.heap.size+1+1+1,0,none⟩ (.int .i64 0)).cell? ⟨w.heap.size+1+1,0,none⟩=some (.slice Ax xl.length cx):=by go_simp
    have r1:((W.setCell ⟨w.heap.size+1+1,0,none⟩ (.slice Ax xl.length cx)).setCell ⟨w.heap.size+1+1+1,0,none⟩ (.int .i64 0)).cell? ⟨w.heap.size+1+1+1,0,none⟩=some (.int .i64 0):=by go_simp
    have au:=(HB.out.setCell (p:=⟨w.heap.size+1+1,0,none⟩) (by simp;omega) (.slice Ax xl.length cx)).setCell (p:=⟨w.heap.size+1+1+1,0,none⟩) (by simp;omega) (.int .i64 0);refine⟨(KeepsOthers.setCell _ _ _).trans (KeepsOthers.setCell _ _ _),⟨rfl,pre,_,rfl,aU.out,by rw[HZ.out];exact HG.out,r0,r1,?_⟩,au⟩;refine Z8.keep HX.out (fun q hq=>?_) (fun k hk=>⟨hk.1,by simpa using hk.2⟩);have h1:W5.heap.size+2<=q.block:=hq.1;rw[zEf _ trivial (by simp;omega),zEf _ trivial (by simp;omega)]
   have dd:decide (0<ZX xl p)=false:=by simpa using aj
   have aK:decide (ZX xl p<=0)=true:=by simp;omega
   have HG:Hid (ZX xl p<=0):=by show _<=_;omega
   clear aj;generalize hq:ZX xl p=z at HC dd aK HG;have HZ:=hid hq;clear hq
   gi_wp2_with (refine⟨trivial,rfl,?_⟩;gi_at_call 119;refine(CallsIn.inRound l (callsIn_wide.2 HC.out)).mono ?_;rintro e w' ⟨rfl,rfl⟩)
   refine⟨KeepsOthers.refl _,Y8.refl _ _,⟨?_,HB.out⟩,hc1,⟨aT,aS⟩,az,aR⟩;intro y hy;rcases List.mem_append.1 hy with hy|hy
   ·exact aU.out y hy
   obtain rfl:=List.mem_singleton.1 hy;show ZX xl p<=0;rw[HZ.out];exact HG.out
  case done =>
   rintro D xs W hD aP ⟨⟨ah,hb⟩,hc1,⟨aT,aS⟩,az,aR⟩ hK;have HN:=hid (zQh (L:=L) (fun q=>decide (0<ZX q p)) (by rw[aP,HL.out]) (fun y hy=>by simpa using ah y hy));have HB:=hid hb;clear ah hb aP;have bn:w.heap.size+1+1+1<W.heap.size:=World.block_lt_of_cell? W _ az
   gi_wp2
   have r0:((W.setCell ⟨w.heap.size+1+1,0,none⟩ (.slice none 0 0)).setCell ⟨w.heap.size+1+1+1,0,none⟩ (.int .i64 8)).cell? ⟨w.heap.size+1+1,0,none⟩=some (.slice none 0 0):=by go_simp
   have r1:((W.setCell ⟨w.heap.size+1+1,0,none⟩ (.slice none 0 0)).setCell ⟨w.heap.size+1+1+1,0,none⟩ (.int .i64 8)).cell? ⟨w.heap.size+1+1+1,0,none⟩=some (.int .i64 8):=by go_simp
   have au:=(HB.out.setCell (p:=⟨w.heap.size+1+1,0,none⟩) (by simp;omega) (.slice none 0 0)).setCell (p:=⟨w.heap.size+1+1+1,0,none⟩) (by simp;omega) (.int .i64 8);have aB:=((KeepsOthers.setCell W ⟨w.heap.size+1+1,0,none⟩ (.slice none 0 0)).trans (KeepsOthers.setCell _ ⟨w.heap.size+1+1+1,0,none⟩ (.int .i64 8))).same D _ hK rfl;generalize ((W.setCell ⟨w.heap.size+1+1,0,none⟩ (.slice none 0 0)).setCell ⟨w.heap.size+1+1+1,0,none⟩ (.int .i64 8))=W2 at *;have aI:=zHk r0 (.deferred none) aB rfl;have aH:=zHk r1 (.deferred none) aB rfl;have aJ:=au.trans (belowK_b (w:=w) (Qi _) W2 D _ (.deferred none) (by omega) aB rfl rfl);refine⟨by simp,.inl ⟨_,_,rfl,run_takeDeferred aB,?_⟩⟩;generalize W2.putObj D (.deferred none)=W3 at *;rw[bB.out HN.out];exact⟨.tuple #[.slice none 0 0,.int .i64 8],by simp[results,Tryz.results89,go_sem,aI,aH],aJ,_,rfl,Z8.nil_ 0 (by simp[maxLen]) none⟩
  case stop =>
   rintro D c pre W hD aa ⟨⟨rfl,q,⟨xl,xv⟩,rfl,h1,h2,h3,h4,hx⟩,hb⟩ hK;have HN:=hid (UH (L:=L) (fun q=>decide (0<ZX q p)) (by rw[<-HL.out];exact aa) (fun y hy=>by simpa using h1 y hy) (by simpa using h2));obtain⟨Ax,cx,rfl,hx⟩:=zF1 hx;have HB:=hid hb;have HX:=hid hx;clear hb h1 h2 aa hx
   gi_wp2
   have aI:=zHk h3 (.deferred none) hK rfl;have aH:=zHk h4 (.deferred none) hK rfl;have aJ:=HB.out.trans (belowK_b (w:=w) (Qi _) W D _ (.deferred none) (by omega) hK rfl rfl);have bq:=zMr (W5.heap.size+2) (xl,.slice Ax xl.length cx) W D _ (.deferred none) hK rfl HX.out;refine⟨by simp,.inl ⟨_,_,rfl,run_takeDeferred hK,?_⟩⟩;generalize W.putObj D (.deferred none)=W3 at *;rw[bA.out _ HN.out];exact⟨.tuple #[.slice Ax xl.length cx,.int .i64 0],by simp[results,Tryz.results89,go_sem,aI,aH],aJ,_,rfl,Z8.wide bq (fun k hk=>⟨by omega,hk.2⟩)⟩
 have HR:Hid (Rl t p=([],YQ (ZU t) (ZO t p))):=by show _=_;rw[Rl,if_neg af]
 have d1:(YQ (ZU t) (ZO t p) != 0)=true:=by simpa using af
 have aN:=aD;rw[HR.out];clear HR af aD;generalize YQ (ZU t) (ZO t p)=c at *;obtain⟨tk,tx,tc,ts⟩:=t;simp only[Z9.kind,Z9.text,Z9.cols,Z9.kids] at *;go_enter Tryz.func89,Tryz.ntmps89
 go_wp2_with fail
 rw[<-aC.out];refine aN.out.mono ?_;rintro e w1 ⟨rfl,ae⟩;have aF:=hid (aG.out.trans (ae.mono aG.out.size));have hz:w.heap.size+1+1+1<w1.heap.size:=Qk aL.out ae.size;obtain⟨_,_,⟨q2,f2⟩,⟨q3,f3⟩⟩:=KB.out w1 ae;clear ae
 go_wp2_with fail
 have r0:((w1.setCell ⟨w.heap.size+1+1,0,none⟩ (.slice none 0 0)).setCell ⟨w.heap.size+1+1+1,0,none⟩ (.int .i64 c)).cell? ⟨w.heap.size+1+1,0,none⟩=some (.slice none 0 0):=by go_simp
 have r1:((w1.setCell ⟨w.heap.size+1+1,0,none⟩ (.slice none 0 0)).setCell ⟨w.heap.size+1+1+1,0,none⟩ (.int .i64 c)).cell? ⟨w.heap.size+1+1+1,0,none⟩=some (.int .i64 c):=by go_simp
 have au:Below w.heap.size w ((w1.setCell ⟨w.heap.size+1+1,0,none⟩ (.slice none 0 0)).setCell ⟨w.heap.size+1+1+1,0,none⟩ (.int .i64 c)):=(aF.out.setCell (p:=⟨w.heap.size+1+1,0,none⟩) (by simp;omega) _).setCell (p:=⟨w.heap.size+1+1+1,0,none⟩) (by simp;omega) _;generalize ((w1.setCell ⟨w.heap.size+1+1,0,none⟩ (.slice none 0 0)).setCell ⟨w.heap.size+1+1+1,0,none⟩ (.int .i64 c))=W2 at *;exact bodyPost_ret (v:=.tuple #[.slice none 0 0,.int .i64 c]) (by simp[results,Tryz.results89,go_sem,r0,r1]) rfl ⟨au,_,rfl,Z8.nil_ 0 (by simp[maxLen]) none⟩
attribute [local go_sem] Oper.semAt_some
theorem Sl (w1:World) (b u0 u1 u2 u3:Value) (ty tn:TypeId) :
  ((w1.alloc (.cells #[b] ty)).alloc (.cells #[u0,u1,u2,u3] tn)).cell? ⟨w1.heap.size+1,3,none⟩=some u3 /\
  (((w1.alloc (.cells #[b] ty)).alloc (.cells #[u0,u1,u2,u3] tn)).cell? ⟨w1.heap.size,0,none⟩=some b/\((w1.alloc (.cells #[b] ty)).alloc (.cells #[u0,u1,u2,u3] tn)).frozen? ⟨w1.heap.size,0,none⟩=false) /\
  ((w1.alloc (.cells #[b] ty)).alloc (.cells #[u0,u1,u2,u3] tn)).heap.size=w1.heap.size+2:=by
 have hh:=World.alloc_heap_new w1 (.cells #[b] ty);have h:(w1.alloc (.cells #[b] ty)).cell? ⟨w1.heap.size,0,none⟩=some b/\(w1.alloc (.cells #[b] ty)).frozen? ⟨w1.heap.size,0,none⟩=false:=by
  generalize w1.alloc (.cells #[b] ty)=W at hh ⊢;constructor<;>simp[World.cell?,World.frozen?,hh]
 refine⟨?_,zIb h _,by simp⟩;have e:(w1.alloc (.cells #[b] ty)).heap.size=w1.heap.size+1:=by simp
 rw[<-e,World.cell?_alloc_new];rfl
attribute [local go_sem] Oper.semAt_some
theorem zJ0 {L:List (List Int)} {pre:List ZF} {x:ZF} (f:List Int->Bool) (h:(pre++[x]).map Prod.fst <+: L) (h1:∀y∈pre,f y.1=true) (h2:f x.1=false):L.takeWhile f=pre.map Prod.fst:=by
 obtain⟨r,rfl⟩:=h;have h3:∀a∈pre.map Prod.fst,f a=true:=fun a ha=>by obtain⟨y,hy,rfl⟩:=List.mem_map.1 ha;exact h1 y hy
 rw[List.map_append,List.append_assoc,List.takeWhile_append_of_pos h3];simp[List.takeWhile_cons,h2]
theorem zJ1 {L:List (List Int)} {pre:List ZF} (f:List Int->Bool) (h:pre.map Prod.fst=L) (h1:∀y∈pre,f y.1=true):L.takeWhile f=pre.map Prod.fst:=by
 subst h;have h3:∀a∈pre.map Prod.fst,f a=true:=fun a ha=>by obtain⟨y,hy,rfl⟩:=List.mem_map.1 ha;exact h1 y hy
 have:=List.takeWhile_append_of_pos (l₂:=[]) h3;simpa using this
attribute [local go_sem] Oper.semAt_some
def VR (pre:List ZF):Value:=match pre.getLast? with|some x=>x.2|none=>.slice none 0 0
def Qz (pre:List ZF):List Int:=match pre.getLast? with|some x=>x.1|none=>[]
theorem QA (pre:List ZF) (x:ZF):VR (pre++[x])=x.2:=by simp[VR]
theorem zGn (pre:List ZF) (x:ZF):Qz (pre++[x])=x.1:=by simp[Qz]
def VQ (L:List (List Int)) (p:List Int):Option (List Int):=(L.takeWhile (fun q=>decide (q≠p))).getLast?
def WZ (o:Option (List Int)):List Int×Int:=match o with|some q=>(q,0)|none=>([],8)
def Rw (t:Z9) (p:List Int):List Int×Int:=if YQ (ZU t) (ZO t p)=0 then WZ (VQ (ZJ [] t) p) else ([],YQ (ZU t) (ZO t p))
theorem Vf (t:Z9) (p:List Int) (A:Option Addr) (cap:Nat) (b:Value) (w:World) (hv:Z8 Z6 w (Lt w.heap.size) t.kids (.slice A t.kids.length cap)) (aP:t.text.size<=maxLen) (hp:Z0 w (Lt w.heap.size) p b) :
  Calls Tryz.prog 90 #[.agg #[.int .i64 t.kind,.string t.text,.int .i64 t.cols,.slice A t.kids.length cap],b] w (zIt w (Rw t p)):=by
 obtain⟨Ap,cp,rfl⟩:=hp.form;obtain⟨W4,aA⟩:∃W4,W4=(w.alloc (Obj.cells #[.int .i64 t.kind,.string t.text,.int .i64 t.cols,.slice A t.kids.length cap] 24)).alloc (.cells #[.slice Ap p.length cp] 25):=⟨_,rfl⟩;have ax:Below w.heap.size w W4:=by rw[aA];exact((Qg _ w).alloc (Qi _) _).alloc (by simp) _
 have aH:W4.heap.size=w.heap.size+2:=by rw[aA];simp
 have aF:=hid ax;have aM:Hid (Calls Tryz.prog 117 #[.agg #[.int .i64 t.kind,.string t.text,.int .i64 t.cols,.slice A t.kids.length cap],.slice Ap p.length cp] W4 fun e w'=>e=.returned (.int .i64 (YQ (ZU t) (ZO t p)))/\Below W4.heap.size W4 w') :=
  zL9 t p A cap _ W4 (hv.below ax ax.size) aP (hp.below ax ax.size)
 have KB:Hid (∀W,Below W4.heap.size W4 W->YS W w.heap.size t.kind t.cols t.text (.slice A t.kids.length cap)/\W.cell? ⟨w.heap.size+1,0,none⟩=some (.slice Ap p.length cp)):=by
  intro W hW;have hc:=(bcell hW).1;rw[aH] at hc;unfold YS;rw[hc _ _ (by omega),hc _ _ (by omega),hc _ _ (by omega),hc _ _ (by omega),hc _ _ (by omega),aA];go_simp
 have bu:Hid (∀W,Below w.heap.size w W->Z8 Z6 W (Lt w.heap.size) t.kids (.slice A t.kids.length cap)):=fun W h=>hv.below h (Qi _)
 have bB:Hid (∀W,Below w.heap.size w W->Z0 W (Lt w.heap.size) p (.slice Ap p.length cp)):=fun W h=>hp.below h (Qi _)
 have aS:Hid (ZU t=true->ZR t<=1000):=fun h=>(Yb h).1
 have bz:=hid aH;have aR:=hid aA;clear hv hp ax aH aP aA;by_cases au:YQ (ZU t) (ZO t p)=0
 ·have az:ZU t=true/\ZO t p=true:=by
   unfold YQ at au;cases h1:ZU t<;>cases h2:ZO t p<;>simp_all
  have ay:=aS.out az.1;have aL:=hid ay;have HLE:Hid ((ZJ [] t).length<=2000):=by show _<=_;rw[zHl];have:=zKp t;omega
  have HR:Hid (Rw t p=WZ (VQ (ZJ [] t) p)):=by show _=_;rw[Rw,if_pos au]
  have aW:Hid (∀q∈ZJ [] t,0<q.length):=fun q hq=>by
   have:=zKj.1 hq;rcases q with _|⟨_,_⟩
   ·simp[ZO] at this
   simp
  rw[au] at aM;rw[HR.out];generalize hL:ZJ [] t=L at *;have HL:=hid hL;have bC:Hid (∀q:List ZF,(∀y∈q,y.1≠p)->q.map Prod.fst=L->(q.map Prod.fst).getLast?=VQ L p):=fun q h1 h2=>by
   rw[VQ,zJ1 _ h2 (fun y hy=>by simpa using h1 y hy)]
  have aX:Hid (∀(q:List ZF) (x:ZF),(∀y∈q,y.1≠p)->x.1=p->(q++[x]).map Prod.fst <+: L->(q.map Prod.fst).getLast?=VQ L p):=fun q x h1 h3 h2=>by
   rw[VQ,zJ0 _ h2 (fun y hy=>by simpa using h1 y hy) (by simpa using h3)]
  have aU:Hid (∀q:List ZF,(q.map Prod.fst).getLast?=VQ L p->q=[]->WZ (VQ L p)=([],8)):=fun q h1 h2=>by subst h2;rw[<-h1];rfl
  have aT:Hid (∀q:List ZF,(q.map Prod.fst).getLast?=VQ L p->∀q' x,q=q'++[x]->WZ (VQ L p)=(x.1,0)):=fun q h1 q' x h2=>by subst h2;rw[<-h1];simp[WZ]
  generalize VQ L p=O at *;generalize WZ O=r at *;obtain⟨tk,tx,tc,ts⟩:=t;simp only[Z9.kind,Z9.text,Z9.cols,Z9.kids] at *;clear ay au hL HR aS az;refine(callsIn_wide (n:=0)).1 ?_;refine callsIn_of_wp_marks Tryz.func90 rfl trivial ?_ rfl;simp only[Tryz.ntmps90,List.size_toArray,List.length_cons,List.length_nil,Nat.reduceAdd,Nat.reduceSub,Array.replicate_succ,Array.replicate_zero,List.push_toArray,List.append_toArray,List.nil_append,List.cons_append]
  gi_wp2_with fail
  rw[<-aR.out];refine⟨trivial,rfl,?_⟩;refine(callsIn_wide.2 aM.out).mono ?_;rintro e w1 ⟨rfl,av⟩;have aD:=hid (aF.out.trans (av.mono aF.out.size));have bq:Hid (w.heap.size+1<w1.heap.size):=by have:=bz.out;have:=av.size;show _<_;omega
  have hz:=bq.out;have hz0:w.heap.size<w1.heap.size:=by omega
  obtain⟨⟨q0,bg,aZ,aY⟩,qq⟩:=KB.out w1 av;clear av
  gi_wp2_with (refine⟨trivial,rfl,?_⟩;gi_at_call 118;refine(zJe _ ⟨_,_,_,_,rfl⟩ _ _).mono ?_;rintro e w' ⟨rfl,rfl⟩)
  obtain⟨bG,⟨k0,kf⟩,aO⟩:=Sl w1 (.slice none 0 0) (.int .i64 tk) (.string tx) (.int .i64 tc) (.slice A ts.length cap) 25 24;have ah:Below w.heap.size w ((w1.alloc (.cells #[.slice none 0 0] 25)).alloc (.cells #[.int .i64 tk,.string tx,.int .i64 tc,.slice A ts.length cap] 24)):=(aD.out.alloc aD.out.size _).alloc (by simp;omega) _;have kq:=zKq (zKq qq (.cells #[.slice none 0 0] 25)) (.cells #[.int .i64 tk,.string tx,.int .i64 tc,.slice A ts.length cap] 24);generalize ((w1.alloc (.cells #[.slice none 0 0] 25)).alloc (.cells #[.int .i64 tk,.string tx,.int .i64 tc,.slice A ts.length cap] 24))=W5 at *;clear q0 bg aZ aY qq;have HB5:=hid ah;refine zHm 8 (.mk tk tx tc ts) w.heap.size (w1.heap.size+1) (w1.heap.size+1) A cap rfl (by omega) (by omega) (by omega) bG (bu.out _ ah) (by have:=aL.out;omega)
   (fun pre W=>((∀y∈pre,y.1≠p)/\Below w.heap.size w W)/\W.cell? ⟨w.heap.size+1,0,none⟩=some (.slice Ap p.length cp)/\(W.cell? ⟨w1.heap.size,0,none⟩=some (VR pre)/\W.frozen? ⟨w1.heap.size,0,none⟩=false)/\Z0 W (fun k=>W5.heap.size+2<=k/\k<W.heap.size) (Qz pre) (VR pre))
   (fun c pre W=>(c=.exit 0/\∃q x,pre=q++[x]/\(∀y∈q,y.1≠p)/\x.1=p/\W.cell? ⟨w1.heap.size,0,none⟩=some (VR q)/\Z0 W (fun k=>W5.heap.size+2<=k/\k<W.heap.size) (Qz q) (VR q))/\Below w.heap.size w W)
   ?hI ?hIx ⟨⟨by simp,ah⟩,kq,⟨k0,kf⟩,Z8.nil_ 0 (by simp[maxLen]) none⟩ ?assign ?body ?done ?stop
  case hI=>exact OwnFrom.and (OwnFrom.and (zNz _ _) (ownFrom_below (Qi _) ah.size)) (OwnFrom.and (zN0 _ _ _) (OwnFrom.and (zMt _ _ VR) (zKf _ _ Qz VR)))
  case hIx =>
   intro c;refine OwnFrom.and ?_ (ownFrom_below (Qi _) ah.size);rintro s A B row ⟨hc,q,x,h1,h2,h3,h4,h5⟩ hg hr;exact⟨hc,q,x,h1,h2,h3,cell_kept h4 hg (fun r e=>(hr r e).2),zKf _ (W5.heap.size+2) (fun _=>Qz q) (fun _=>VR q) s A B row h5 hg hr⟩
  case assign =>
   intro l x W K hK
   gi_wp2
   exact hK
  case body =>
   rintro l pre ⟨xl,xv⟩ W ⟨⟨aj,hb⟩,aJ,⟨hc1,aI⟩,af⟩ hx aa;obtain⟨Ax,cx,rfl,hx⟩:=zF1 hx
   dsimp only
   have aV:=hid aj;have HB:=hid hb;have HX:=hid hx;have aB:=hid af;have hzz:=World.block_lt_of_cell? W _ hc1;have aC:Hid (Calls Tryz.prog 120 #[.slice Ax xl.length cx,.slice Ap p.length cp] W fun e w'=>e=.returned (.bool (decide (xl=p)))/\∃m,w'=W.drewN m):=zS7 xl p W _ _ _ _ hx (bB.out W hb);clear hb hx aa aj af;by_cases ak:xl=p
   ·have aQ:=hid ak;have hd:decide (xl=p)=true:=by simpa using ak
    rw[hd] at aC;clear ak hd;have aN:=hid hc1
    gi_wp2_with (refine⟨trivial,rfl,?_⟩;gi_at_call 120;refine(CallsIn.inRound l (callsIn_wide.2 aC.out)).mono ?_;rintro e w' ⟨rfl,m,rfl⟩)
    exact⟨zJk W m,⟨rfl,pre,_,rfl,aV.out,aQ.out,aN.out,Z8.keep aB.out (fun _ _=>rfl) (fun _ h=>h)⟩,zEt HB.out m⟩
   have aQ:=hid ak;have hd:decide (xl=p)=false:=by simpa using ak
   have bA:Hid (∀y∈pre++[((xl,.slice Ax xl.length cx):ZF)],y.1≠p):=by
    intro y hy;rcases List.mem_append.1 hy with hy|hy
    ·exact aV.out y hy
    obtain rfl:=List.mem_singleton.1 hy;exact ak
   rw[hd] at aC;clear ak hd aX;have aN:=hid hc1;have bD:=hid aI;obtain⟨lv,af⟩:∃lv,lv=VR pre:=⟨_,rfl⟩;rw[<-af] at hc1;have bn:=hid aO;clear af aO
   gi_wp2_with (refine⟨trivial,rfl,?_⟩;gi_at_call 120;refine(CallsIn.inRound l (callsIn_wide.2 aC.out)).mono ?_;rintro e w' ⟨rfl,m,rfl⟩)
   refine⟨(zJk W m).trans (KeepsOthers.setCell _ _ _),(Y8.drewN W m).trans (Y8.setCell (V:=VP _ _ _) _ (p:=⟨w1.heap.size,0,none⟩) (.inl ⟨by simp;omega,by simp⟩) _),⟨bA.out,(zEt HB.out m).setCell (p:=⟨w1.heap.size,0,none⟩) (by simp;omega) _⟩,?_,⟨?_,?_⟩,?_⟩
   ·rw[zEf _ trivial (by simp;omega)];exact aJ
   ·rw[QA];exact World.cell?_setCell_same' _ _ _ (by show (W.cell? _).isSome=true;rw[aN.out];rfl)
   ·rw[World.frozen?_setCell];exact bD.out
   rw[QA,zGn];refine Z8.keep HX.out (fun q hq=>?_) (fun k hk=>⟨hk.1,by have:=hk.2;simpa using this⟩);have h1:W5.heap.size+2<=q.block:=hq.1;have:=bn.out;rw[zEf _ trivial (by simp;omega)];rfl
  case done =>
   rintro D xs W hD aG ⟨⟨aj,hb⟩,aJ,⟨hc1,aI⟩,af⟩ hK;have HO:=hid (bC.out xs aj (by rw[aG,HL.out]));have aK:Hid (∀q' x,xs=q'++[x]->0<x.1.length):=fun q' x h=>aW.out x.1 (by rw[<-HL.out,<-aG,h];simp)
   have HB:=hid (hb.trans (belowK_b (w:=w) (Qi _) W D _ (.deferred none) (by have:=ah.size;omega) hK rfl rfl));have aB:=hid af;have hn:=fun w=>Lib.run_eql_slice_nil (P:=Tryz.prog) w
   clear hb aG aj af aI aJ;rcases List.eq_nil_or_concat xs with rfl|⟨q',x,rfl⟩
   ·have ae:VR ([]:List ZF)=.slice none 0 0:=rfl;rw[ae] at hc1;clear ae
    gi_wp2
    refine⟨by simp,.inl ⟨_,_,rfl,run_takeDeferred hK,?_⟩⟩;rw[aU.out _ HO.out rfl];exact⟨.tuple #[.slice none 0 0,.int .i64 8],by simp[results,Tryz.results90,go_sem],HB.out,_,rfl,Z8.nil_ 0 (by simp[maxLen]) none⟩
   rw[List.concat_eq_append] at *;have ag:=aK.out q' x rfl;have hl:=aB.out;rw[QA,zGn] at hl;rw[QA] at hc1;obtain⟨xl,xv⟩:=x;obtain⟨Ax,cx,rfl,hx⟩:=zF1 hl
   dsimp only at hc1
   obtain⟨ad,rfl⟩:∃ad,Ax=some ad:=by
    obtain⟨_,_,cs,e,_,_,h7,h8⟩:=hx;cases e;exact h7.some_ (by rw[h8.len];simpa[ZA] using ag)
   have HX:=hid (zMr (W5.heap.size+2) (xl,.slice (some ad) xl.length cx) W D _ (.deferred none) hK rfl hx);clear hl hx ag
   gi_wp2
   refine⟨by simp,.inl ⟨_,_,rfl,run_takeDeferred hK,?_⟩⟩;rw[aT.out _ HO.out _ _ rfl];exact⟨.tuple #[.slice (some ad) xl.length cx,.int .i64 0],by simp[results,Tryz.results90,go_sem],HB.out,_,rfl,Z8.wide HX.out (fun k hk=>⟨by have:=ah.size;omega,hk.2⟩)⟩
  case stop =>
   rintro D c pre W hD aa ⟨⟨rfl,xs,y,rfl,aj,hy,hc1,af⟩,hb⟩ hK;have HO:=hid (aX.out xs y aj hy (by rw[<-HL.out];exact aa));have aK:Hid (∀q' x,xs=q'++[x]->0<x.1.length):=fun q' x h=>aW.out x.1 (by
    rw[HL.out,h] at aa;exact aa.subset (by simp))
   have HB:=hid (hb.trans (belowK_b (w:=w) (Qi _) W D _ (.deferred none) (by have:=ah.size;omega) hK rfl rfl));have aB:=hid af;have hn:=fun w=>Lib.run_eql_slice_nil (P:=Tryz.prog) w
   clear hb aa aj af hy;rcases List.eq_nil_or_concat xs with rfl|⟨q',x,rfl⟩
   ·have ae:VR ([]:List ZF)=.slice none 0 0:=rfl;rw[ae] at hc1;clear ae
    gi_wp2
    refine⟨by simp,.inl ⟨_,_,rfl,run_takeDeferred hK,?_⟩⟩;rw[aU.out _ HO.out rfl];exact⟨.tuple #[.slice none 0 0,.int .i64 8],by simp[results,Tryz.results90,go_sem],HB.out,_,rfl,Z8.nil_ 0 (by simp[maxLen]) none⟩
   rw[List.concat_eq_append] at *;have ag:=aK.out q' x rfl;have hl:=aB.out;rw[QA,zGn] at hl;rw[QA] at hc1;obtain⟨xl,xv⟩:=x;obtain⟨Ax,cx,rfl,hx⟩:=zF1 hl
   dsimp only at hc1
   obtain⟨ad,rfl⟩:∃ad,Ax=some ad:=by
    obtain⟨_,_,cs,e,_,_,h7,h8⟩:=hx;cases e;exact h7.some_ (by rw[h8.len];simpa[ZA] using ag)
   have HX:=hid (zMr (W5.heap.size+2) (xl,.slice (some ad) xl.length cx) W D _ (.deferred none) hK rfl hx);clear hl hx ag
   gi_wp2
   refine⟨by simp,.inl ⟨_,_,rfl,run_takeDeferred hK,?_⟩⟩;rw[aT.out _ HO.out _ _ rfl];exact⟨.tuple #[.slice (some ad) xl.length cx,.int .i64 0],by simp[results,Tryz.results90,go_sem],HB.out,_,rfl,Z8.wide HX.out (fun k hk=>⟨by have:=ah.size;omega,hk.2⟩)⟩
 have HR:Hid (Rw t p=([],YQ (ZU t) (ZO t p))):=by show _=_;rw[Rw,if_neg au]
 have d1:(YQ (ZU t) (ZO t p) != 0)=true:=by simpa using au
 rw[HR.out];clear HR au;generalize YQ (ZU t) (ZO t p)=c at *;obtain⟨tk,tx,tc,ts⟩:=t;simp only[Z9.kind,Z9.text,Z9.cols,Z9.kids] at *;go_enter Tryz.func90,Tryz.ntmps90
 go_wp2_with fail
 rw[<-aR.out];refine aM.out.mono ?_;rintro e w1 ⟨rfl,av⟩;have aD:=hid (aF.out.trans (av.mono aF.out.size));clear av
 go_wp2_with fail
 exact bodyPost_ret (v:=.tuple #[.slice none 0 0,.int .i64 c]) (by simp[results,Tryz.results90,go_sem]) rfl ⟨aD.out,_,rfl,Z8.nil_ 0 (by simp[maxLen]) none⟩
end Go.Proofs.YthpngeboknmllaaGreat
namespace Go.Proofs.YthpngeboknmllaaGreat
open Go.RowKit
theorem zNb (p m:List Int) (Ap Am:Option Addr) (cp cm:Nat) (w:World) (hp:Z0 w (Lt w.heap.size) p (.slice Ap p.length cp)) (hm:Z0 w (Lt w.heap.size) m (.slice Am m.length cm)) (ay:p.length<=1000000) (aC:m.length<=1000000) :
  Calls Tryz.prog 58 #[.agg #[.slice Ap p.length cp,.slice Am m.length cm]] w fun e w'=>∃aJ aF aK aG,e=.returned (.agg #[.slice aJ p.length aF,.slice aK m.length aG])/\Z0 w' (Ug w w') p (.slice aJ p.length aF)/\Z0 w' (Ug w w') m (.slice aK m.length aG)/\Below w.heap.size w w':=by
 obtain⟨W0,ag⟩:∃W0,(w.alloc (.cells #[.slice Ap p.length cp,.slice Am m.length cm] 27)).alloc (.cells #[.slice none 0 0,.slice none 0 0] 27)=W0:=⟨_,rfl⟩;have ax:W0.heap.size=w.heap.size+1+1:=by rw[<-ag];simp
 have af:Below w.heap.size w W0:=by rw[<-ag];exact((Qg _ _).alloc (Qi _) _).alloc (by simp) _
 have KB:Hid (∀W,Below W0.heap.size W0 W->W.cell? ⟨w.heap.size,0,none⟩=some (.slice Ap p.length cp)/\W.cell? ⟨w.heap.size,1,none⟩=some (.slice Am m.length cm)/\W.cell? ⟨w.heap.size+1,0,none⟩=some (.slice none 0 0)/\W.cell? ⟨w.heap.size+1,1,none⟩=some (.slice none 0 0)/\W.frozen? ⟨w.heap.size+1,0,none⟩=false/\W.frozen? ⟨w.heap.size+1,1,none⟩=false/\Below w.heap.size w W):=fun W hW=>by
  have aB:Z5 W w.heap.size (.cells #[.slice Ap p.length cp,.slice Am m.length cm] 27):=Z5.belowB (by rw[<-ag];exact(Z5.at0 _ _).al _) hW (by omega);have ae:Z5 W (w.heap.size+1) (.cells #[.slice none 0 0,.slice none 0 0] 27):=Z5.belowB (by rw[<-ag];exact Z5.at1 _ _ _) hW (by omega);exact⟨aB.cell 0,aB.cell 1,ae.cell 0,ae.cell 1,ae.free 0,ae.free 1,af.trans (hW.mono af.size)⟩
 have CI:Hid (∀W,Below w.heap.size w W->Calls Tryz.prog 99 #[.slice Ap p.length cp] W (QU W p)):=fun W hW=>zEe p W _ (hp.below hW hW.size) ay
 have CM:Hid (∀W,Below w.heap.size w W->Calls Tryz.prog 99 #[.slice Am m.length cm] W (QU W m)):=fun W hW=>zEe m W _ (hm.below hW hW.size) aC
 have aR:=hid af;have aH:=hid ax;obtain⟨m0,m1,r0,r1,f0,f1,_⟩:=KB.out W0 (Qg _ _);clear hp hm ay aC af ax;go_enter Tryz.func58,Tryz.ntmps58
 go_wp2_with fail
 go_region_held3 (fun w'=>w'.cell? ⟨w.heap.size,0,none⟩=some (.slice Ap p.length cp)/\w'.cell? ⟨w.heap.size,1,none⟩=some (.slice Am m.length cm)) (go_keep) (first
  |(go_at_call 99;refine(CI.out _ (Xj aR.out)).mono ?_;rintro e w3 ⟨v3,rfl,aA,aD⟩;have ak:Z0 w3 (fun k=>W0.heap.size<=k/\k<w3.heap.size) p v3:=aA.ints (fun k h1 h2=>⟨h1,h2⟩);obtain⟨A3,c3,rfl⟩:=ak.form;have aP:=hid ak;have ah:=hid (Xo aD);obtain⟨m0,m1,r0,r1,f0,f1,aa⟩:=KB.out w3 ah.out;have aN:=hid aa;clear ak aA aD aa)
  |(go_at_call 99;refine(CM.out _ aN.out).mono ?_;rintro e w4 ⟨v4,rfl,az,au⟩;have aj:Z0 w4 (fun k=>w3.heap.size<=k/\k<w4.heap.size) m v4:=az.ints (fun k h1 h2=>⟨h1,h2⟩);obtain⟨A4,c4,rfl⟩:=aj.form;have aO:=hid aj;have aI:=hid au;have aQ:=hid (ah.out.trans (au.mono ah.out.size));obtain⟨m0,m1,r0,r1,f0,f1,aa⟩:=KB.out w4 aQ.out;have aM:=hid aa;clear aj az au aa)
  |fail)
 go_wp2_with fail
 have h9:∀q:Addr,W0.heap.size<=q.block->((w4.setCell ⟨w.heap.size+1,0,none⟩ (.slice A3 p.length c3)).setCell ⟨w.heap.size+1,1,none⟩ (.slice A4 m.length c4)).cell? q=w4.cell? q:=fun q hq=>by
  have:=aH.out;rw[World.cell?_setCell_other _ _ _ _ (by intro e;rw[<-e] at hq;simp only at hq;omega),World.cell?_setCell_other _ _ _ _ (by intro e;rw[<-e] at hq;simp only at hq;omega)]
 have e0:((w4.setCell ⟨w.heap.size+1,0,none⟩ (.slice A3 p.length c3)).setCell ⟨w.heap.size+1,1,none⟩ (.slice A4 m.length c4)).cell? ⟨w.heap.size+1,0,none⟩=some (.slice A3 p.length c3):=(World.cell?_setCell_other _ _ _ _ (by intro e;injection e with e e';cases e')).trans (World.cell?_setCell_same _ _ _ r0);have e1:((w4.setCell ⟨w.heap.size+1,0,none⟩ (.slice A3 p.length c3)).setCell ⟨w.heap.size+1,1,none⟩ (.slice A4 m.length c4)).cell? ⟨w.heap.size+1,1,none⟩=some (.slice A4 m.length c4):=World.cell?_setCell_same _ _ _ ((World.cell?_setCell_other _ _ _ _ (by intro e;injection e with e e';cases e')).trans r1);have aL:=(aM.out.setCell (p:=⟨w.heap.size+1,0,none⟩) (Nat.le_succ _) (.slice A3 p.length c3)).setCell (p:=⟨w.heap.size+1,1,none⟩) (Nat.le_succ _) (.slice A4 m.length c4);have av:((w4.setCell ⟨w.heap.size+1,0,none⟩ (.slice A3 p.length c3)).setCell ⟨w.heap.size+1,1,none⟩ (.slice A4 m.length c4)).heap.size=w4.heap.size:=by simp[World.setCell]
 have h3:=ah.out.size;have h4:=aI.out.size;have hz:=aH.out;refine bodyPost_ret (v:=.agg #[.slice A3 p.length c3,.slice A4 m.length c4]) (by simp[results,Tryz.results58,go_sem,e0,e1]) rfl ?_;exact⟨A3,c3,A4,c4,rfl,aP.out.keep (fun q hq=>(h9 q hq.1).trans (aI.out.cell hq.2)) (fun k hk=>⟨by have:=hk.1;omega,by rw[av];exact Qk hk.2 h4⟩),aO.out.keep (fun q hq=>h9 q (by have:=hq.1;omega)) (fun k hk=>⟨by have:=hk.1;omega,by rw[av];exact hk.2⟩),aL⟩
def Ue (T:TypeId) (z:Value) (size bytes:Nat):Prop:=∃i,Tryz.prog.info? T=some i/\i.zero=some z/\i.size=size/\i.bytes=bytes
def Y2 {α:Type} (E:YA α) (T:TypeId) (w:World) (b:Nat) (ts:List α) (v:Value):Prop:=∃cs,w.ownsRow b T E.size v ts.length cs/\ZG E w (Yf b w v) ts cs
section
variable {α:Type} {E:YA α} {T:TypeId}
theorem Y2.rows {w:World} {b:Nat} {ts:List α} {v:Value} (h:Y2 E T w b ts v):Z8 E w (fun k=>b<=k/\k<w.heap.size) ts v:=by
 obtain⟨cs,h1,h2⟩:=h;exact Z8.of_own (E:=E) h1 (fun k hk=>⟨(h1.lt k hk).1,(h1.lt k hk).2⟩) (h2.keep (Wi _ _) (fun k hk=>⟨hk.1,hk.2.1⟩))
theorem Y2.nil (w:World) (b:Nat):Y2 E T w b [] (.slice none 0 0):=⟨[],World.ownsRow_nil _ _ _ _,rfl⟩
theorem Y2.below {w w':World} {b:Nat} {ts:List α} {v:Value} (h:Y2 E T w b ts v) (hb:Below w.heap.size w w'):Y2 E T w' b ts v:=by
 obtain⟨cs,h1,h2⟩:=h;exact⟨cs,QF _ h1 hb,h2.keep (S:=Yf b w v) (fun p hp=>hb.cell hp.2.1) (fun k hk=>⟨hk.1,Qk hk.2.1 hb.size,hk.2.2⟩)⟩
theorem Y2.own_lt {w:World} {b:Nat} {ts:List α} {v:Value} (h:Y2 E T w b ts v):∀k,v.ownBlock=some k->b<=k/\k<w.heap.size:=by
 obtain⟨cs,h1,_⟩:=h;exact fun k hk=>h1.lt k hk
theorem Y2.form {w:World} {b:Nat} {ts:List α} {v:Value} (h:Y2 E T w b ts v):∃A c,v=.slice A ts.length c:=h.rows.form
variable {w:World} {b:Nat} {xss yss:List α} {v:Value}
theorem zOr {w':World} {v':Value} {cs rs:List Value} (h1:w.ownsRow b T E.size v xss.length cs) (h2:ZG E w (Yf b w v) xss cs) (aa:ZG E w (Yf b w v) yss rs)
  (h3:w'.ownsRow b T E.size v' (xss.length+yss.length) (cs++rs)) (h4:w.grownBy w' v.ownBlock) (h5:v'.ownBlock=v.ownBlock\/v'.ownBlock=some w.heap.size):Y2 E T w' b (xss++yss) v':=by
 refine⟨cs++rs,by rw[List.length_append];exact h3,?_⟩;refine(h2.append aa).keep (S:=Yf b w v) (fun p hp=>World.cell?_of_block (h4.block p.block hp.2.1 hp.2.2)) (fun k hk=>⟨hk.1,Qk hk.2.1 h4.size,?_⟩);rcases h5 with h5|h5
 ·rw[h5];exact hk.2.2
 rw[h5];intro e;injection e with e;have:=hk.2.1;omega
theorem one_E {w2:World} {b b2:Nat} {t:α} {v:Value} {arr:Array Value} (hR:E.R w2 (fun k=>b2<=k/\k<w2.heap.size) t arr.toList) (hb:b<=b2) (hv:∀k,v.ownBlock=some k->k<b2) (h2:b2<=w2.heap.size) (g:Nat) (hg:g=w2.heap.size) (e:TypeId) :
  Z8 E (w2.alloc (.cells arr e)) (Yf b (w2.alloc (.cells arr e)) v) [t] (.slice (some ⟨g,0,none⟩) 1 1):=by
 subst hg;have hi:=E.keep (w':=w2.alloc (.cells arr e)) (S':=Yf b (w2.alloc (.cells arr e)) v) hR (fun p hp=>(XM _ _).cell hp.2) (fun k hk=>⟨Qf hb hk.1,by simp;omega,fun e=>by have:=hv k e.symm;omega⟩);refine⟨_,_,arr.toList,rfl,Qi _,by simp[maxLen],fun _=>⟨w2.heap.size,0,rfl,⟨by omega,by simp,fun e=>by have:=hv _ e.symm;omega⟩,fun j x hx=>?_⟩,ZG.single hi⟩;rw[Nat.zero_add,World.cell?_alloc_new];simpa using hx
end
theorem zHv (L:List Z9):Zk (Z7 L):=⟨by unfold Z4;simp[Z7,Z9.kind],by unfold Z4;simp[Z7,Z9.cols],show (⟨#[]⟩:ByteArray).size<=maxLen from Qj _⟩
theorem zIq {W W':World} {T:Nat->Prop} (hL:Xb W T) (hT:∀k,T k->k<W.heap.size) {B:Nat} {t:Z9} {s b x c:Nat} (hB:¬T B) (hN:Yo W T B 0 t) (hs:s<t.kids.length) (h3:W.cell? ⟨B,3,none⟩=some (.slice (some ⟨b,x,none⟩) t.kids.length c)) (hb:T b)
  {L0 L:List Z9} (hk:t.kids[s]=Z7 L0) {vL:Value} {S2 T':Nat->Prop} (aj:Z8 Z6 W S2 L vL) (ax:∀q,S2 q->q≠b/\q<W.heap.size) (au:∀k,T k->T' k) (av:∀k,S2 k->T' k) (ag:W'=W.setCell ⟨b,x+s*4+3,none⟩ vL):Yo W' T' B 0 (Zj t s L):=by
 have ay:B≠b:=fun e=>hB (e ▸ hb)
 have hsz:W'.heap.size=W.heap.size:=by rw[ag];simp[World.setCell]
 have ah:=Qw hN (by simpa using h3) hs;rw[hk] at ah;obtain⟨v0,⟨k0,k1,k2,k3⟩,_,_⟩:=ah;have aa:∀q:Addr,q≠⟨b,x+s*4+3,none⟩->W'.cell? q=W.cell? q:=fun q hq=>by rw[ag];exact World.cell?_setCell_other _ _ _ _ (Ne.symm hq)
 have ae:Yo W' T' b (x+s*4) (Z7 L) :=
  ⟨vL,⟨(aa ⟨b,x+s*4,none⟩ (by simp)).trans k0,(aa ⟨b,x+s*4+1,none⟩ (by simp)).trans k1,(aa ⟨b,x+s*4+2,none⟩ (by simp)).trans k2,by rw[ag];exact World.cell?_setCell_same _ _ _ k3⟩,zHv L,
   aj.keep (fun q hq=>aa q (fun e=>(ax _ hq).1 (by rw[e]))) av⟩
 have af:WT W T B 0 t [s] b (x+s*4):=.step B 0 t s [] b x c hs _ _ h3 hb (.here _ _ _);exact zK3 (T':=T') hL (Z7 L) (fun q hq ak=>aa q (by rintro rfl;rcases ak rfl with h|h<;>simp at h<;>omega)) au ae af (.inr ⟨hB,fun j _=>aa _ (fun e=>ay (by injection e))⟩) hN
theorem zGo {W:World} {T:Nat->Prop} {ts:List Z9} {v:Value} (h:Z8 Z6 W T ts v) (h0:0<ts.length):∃b x c,v=.slice (some ⟨b,x,none⟩) ts.length c/\T b:=by
 obtain⟨A,cap,rs,rfl,_,_,h3,h4⟩:=h;have hl:=h4.len;obtain⟨g,o,rfl,hg,_⟩:=h3 (by rw[hl];exact Nat.mul_pos h0 Z6.pos);exact⟨g,o,cap,rfl,hg⟩
theorem zPx {W W':World} {T S2 T':Nat->Prop} (hL:Xb W T) (hT:∀k,T k->k<W.heap.size) {B:Nat} {t:Z9} {p:List Int} {l:List Z9} {g o:Nat} (hB:¬T B) (hN:Yo W T B 0 t) (hf:(ZP t p).2=true) (aa:WT W T B 0 t (p.map Int.toNat) g o)
  {t':Z9} (ax:Yo W T g o t') {v:Value} (hv:Z8 Z6 W S2 l v) (ag:∀q,S2 q->¬T q/\q≠B/\q<W.heap.size)
  (au:∀k,T k->T' k) (av:∀k,S2 k->T' k) (hW:W'=(((W.setCell ⟨g,o,none⟩ (.int .i64 1)).setCell ⟨g,o+1,none⟩ (.string ⟨#[]⟩)).setCell ⟨g,o+2,none⟩ (.int .i64 0)).setCell ⟨g,o+3,none⟩ v):Yo W' T' B 0 (ZV t p l):=by
 obtain⟨v0,⟨d0,d1,d2,d3⟩,_⟩:=ax;obtain⟨r,hz,_,af,_,_⟩:=Xy d0 d1 d2 d3 (.int .i64 1) (.string ⟨#[]⟩) (.int .i64 0) v hW;have aj:∀q,S2 q->q≠g:=fun q hq e=>by
  subst e;rcases aa.where_ with ⟨_,h,_⟩|h
  ·exact(ag _ hq).2.1 h
  exact(ag _ hq).1 h.mem
 have ae:Yo W' T' g o (Z7 l):=⟨v,r,zHv l,hv.keep (fun q hq=>af q (aj _ hq)) av⟩;rcases aa.where_ with ⟨h1,rfl,rfl⟩|h
 ·have:p=[]:=List.map_eq_nil_iff.1 h1;subst this;exact ae
 rw[zJb p t l hf];have ak:B≠g:=fun e=>hB (e ▸ h.mem)
 refine zK3 (T':=T') hL (Z7 l) (fun q hq ah=>?_) au ae aa (.inr ⟨hB,fun j _=>af _ ak⟩) hN;have h9:∀j,j<4->(⟨g,o+j,none⟩:Addr)≠q:=fun j hj e=>by
  have h8:=ah (by rw[<-e]);rw[<-e] at h8;rcases h8 with h8|h8<;>simp at h8<;>omega
 rw[hW,World.cell?_setCell_other _ _ _ _ (h9 3 (by omega)),World.cell?_setCell_other _ _ _ _ (h9 2 (by omega)),World.cell?_setCell_other _ _ _ _ (h9 1 (by omega))];exact World.cell?_setCell_other _ _ _ _ (h9 0 (by omega))
def TH (w:World) (g:Nat):Prop:=∀j u,w.cell? ⟨g,j,none⟩=some u->∃A n c,u=.slice A n c
theorem zHe {w:World} {S:Nat->Prop} {g:Nat} {A:Option Addr} {cs:List Value} (h:TH w g) (hr:Zd w S A cs) (h0:∀u,cs[0]?=some u->∀B n c,u≠.slice B n c):Zd w (fun k=>S k/\k≠g) A cs:=by
 intro hl;obtain⟨g',o,e,hg,hc⟩:=hr hl;refine⟨g',o,e,⟨hg,?_⟩,hc⟩;rintro rfl;have hu:cs[0]?=some cs[0]:=List.getElem?_eq_getElem hl;obtain⟨B,n,c,e9⟩:=h _ _ (hc 0 _ hu);exact h0 _ hu B n c e9
theorem zM1 {w:World} {S:Nat->Prop} {g:Nat} {xs:List Int} {v:Value} (h:TH w g) (hr:Z0 w S xs v):Z0 w (fun k=>S k/\k≠g) xs v:=by
 obtain⟨A,cap,cs,rfl,h1,h2,h3,h4⟩:=hr;obtain⟨e,h5⟩:=Ws.1 h4;refine⟨A,cap,cs,rfl,h1,h2,zHe h h3 (fun u hu B n c=>?_),Ws.2 ⟨e,h5⟩⟩;subst e;rw[List.getElem?_map] at hu;rcases hx:xs[0]? with _|x
 ·rw[hx] at hu;cases hu
 rw[hx] at hu;cases hu;intro e;cases e
mutual
theorem VD {w:World} {S:Nat->Prop} {g:Nat} (hg:TH w g):(t:Z9)->(cs:List Value)->Yh w S t cs->Yh w (fun k=>S k/\k≠g) t cs
 |
  .mk k s c ts,cs,h=>by
  unfold Yh at h ⊢
  obtain⟨A,cap,rs,h1,h2,h3,h4,h5,h6,h7,h8⟩:=h
  refine⟨A,cap,rs,h1,h2,h3,h4,h5,h6,zHe hg h7 (fun u hu B n c=>?_),zHo hg ts rs h8⟩
  cases ts with
  |nil=>unfold XX at h8;subst h8;cases hu
  |
   cons t ts =>
   unfold XX at h8
   obtain⟨a,r,rfl,h9,_⟩:=h8
   obtain⟨k',s',c',ts'⟩:=t
   unfold Yh at h9
   obtain⟨_,_,_,rfl,_⟩:=h9
   cases hu;intro e;cases e
theorem zHo {w:World} {S:Nat->Prop} {g:Nat} (hg:TH w g):(ts:List Z9)->(cs:List Value)->XX w S ts cs->XX w (fun k=>S k/\k≠g) ts cs
 |[],cs,h=>by unfold XX at h ⊢;exact h
 |
  t::ts,cs,h=>by
  unfold XX at h ⊢
  obtain⟨a,r,h1,h2,h3⟩:=h
  exact⟨a,r,h1,VD hg t a h2,zHo hg ts r h3⟩
end
theorem VF {w:World} {S:Nat->Prop} {g:Nat} {xs:List Z9} {v:Value} (h:TH w g) (hr:Z8 Z6 w S xs v):Z8 Z6 w (fun k=>S k/\k≠g) xs v:=by
 obtain⟨A,cap,cs,rfl,h1,h2,h3,h4⟩:=hr;refine⟨A,cap,cs,rfl,h1,h2,zHe h h3 (fun u hu B n c=>?_),RI.1 (zHo h _ _ (RI.2 h4))⟩;cases xs with
 |nil=>cases h4;cases hu
 |
  cons t ts =>
  obtain⟨a,r,rfl,h9,_⟩:=h4;obtain⟨v,rfl,_⟩:=Yl.1 h9;cases hu;intro e;cases e
theorem zHz {w:World} {S:Nat->Prop} {g:Nat} (hg:TH w g):(xs:List ZL)->(cs:List Value)->ZG Za w S xs cs->ZG Za w (fun k=>S k/\k≠g) xs cs
 |[],cs,h=>h
 |
  x::xs,cs,h=>by
  obtain⟨a,r,h1,⟨vr,vn,rfl,h2,h3,h4,h5,h6,h7,h8,h9⟩,aa⟩:=h;exact⟨_,r,h1,⟨vr,vn,rfl,h2,h3,h4,h5,h6,h7,zM1 hg h8,VF hg h9⟩,zHz hg xs r aa⟩
theorem U9 {w:World} {S:Nat->Prop} {g:Nat} {xs:List ZL} {v:Value} (h:TH w g) (hr:Z8 Za w S xs v):Z8 Za w (fun k=>S k/\k≠g) xs v:=by
 obtain⟨A,cap,cs,rfl,h1,h2,h3,h4⟩:=hr;refine⟨A,cap,cs,rfl,h1,h2,zHe h h3 (fun u hu B n c=>?_),zHz h _ _ h4⟩;cases xs with
 |nil=>cases h4;cases hu
 |
  cons t ts =>
  obtain⟨a,r,rfl,⟨vr,vn,rfl,_⟩,_⟩:=h4;cases hu;intro e;cases e
theorem slb5 {W:World} {g:Nat} {T:TypeId} {A B C D E:Option Addr} {a b c d e a' b' c' d' e':Nat} (h:Z5 W g (.cells #[.slice A a a',.slice B b b',.slice C c c',.slice D d d',.slice E e e'] T)):TH W g:=by
 intro j u hu;rw[h.cell j] at hu;rcases j with _|_|_|_|_|j
 ·cases hu;exact⟨_,_,_,rfl⟩
 ·cases hu;exact⟨_,_,_,rfl⟩
 ·cases hu;exact⟨_,_,_,rfl⟩
 ·cases hu;exact⟨_,_,_,rfl⟩
 ·cases hu;exact⟨_,_,_,rfl⟩
 simp at hu
end Go.Proofs.YthpngeboknmllaaGreat
namespace Go.Proofs.YthpngeboknmllaaGreat
open Go.RowKit Go.ChangeShapes Go.WideShapes Go.ChangeAt
section
variable {H:Type} {enc:TypeId×Value->H} {w:World} {base:Nat} {spare:Nat->Bool} {held:Bool}
theorem zKz {a:Addr} {u:Value} (h:w.cell? a=some u):a=⟨a.block,a.off,none⟩/\a.block<w.heap.size:=by
 have aa:=World.block_lt_of_cell? w a h;refine⟨?_,aa⟩;obtain⟨b,o,sp⟩:=a;cases sp with
 |none=>rfl
 |
  some s =>
  exfalso;unfold World.cell? at h;split at h
  ·simp at h
  cases h
theorem Vh {a:Addr} {rs:List Value} (h:∀j u,rs[j]?=some u->w.cell? (a.add j)=some u):Zd w (Lt w.heap.size) (some a) rs:=by
 intro h0;have h1:=h 0 _ (List.getElem?_eq_getElem h0);have e:a.add 0=a:=by unfold Addr.add;simp
 rw[e] at h1;obtain⟨h2,h3⟩:=zKz h1;refine⟨a.block,a.off,by rw[<-h2],h3,fun j u hu=>?_⟩;have:=h j u hu;rw[h2] at this;unfold Addr.add at this;split at this
 ·subst j;simpa using this
 exact this
theorem zI8 {α:Type} (E:YA α) {t e:TypeId} (ht:Tryz.prog.underlying t=some (.slice e)) (hc:Tryz.prog.cellsOf e=E.size) {fuel:Nat} {cs:List Value} {x:DataW H×List MemPlace}
  (hE:∀m,m<fuel->∀cs x,DataW.trod enc Tryz.prog w base spare held m e cs=some x->∃a,E.R w (Lt w.heap.size) a cs)
  (h:DataW.trod enc Tryz.prog w base spare held fuel t cs=some x):∃xs v,cs=[v]/\Z8 E w (Lt w.heap.size) xs v:=by
 rcases DataW.trod_slice ht h with ⟨rfl,_⟩|⟨a,len,cap,ae,rest,n,hf,rfl,_,_,hl,hm,ah,aa,_,_⟩
 ·exact⟨[],_,rfl,Z8.nil_ 0 (by simp) none⟩
 rw[hc] at aa;have af:∀k,k<=len->∃(xs:List α) (rs:List Value),xs.length=k/\ZG E w (Lt w.heap.size) xs rs/\∀j u,rs[j]?=some u->w.cell? (a.add j)=some u:=by
  intro k;induction k with
  |zero=>intro _;exact⟨[],[],rfl,rfl,by simp⟩
  |
   succ k ih =>
   intro hk;obtain⟨xs,rs,h1,h2,h3⟩:=ih (by omega);have h4:=aa k (by omega);rw[List.getElem?_eq_getElem (by omega)] at h4;obtain⟨cs',h5,h6⟩:=Option.bind_eq_some_iff.1 h4;obtain⟨y,hy⟩:=hE n (by omega) _ _ h6;obtain⟨_,h7,h8⟩:=World.cells?_some h5;refine⟨xs++[y],rs++cs',by simp[h1],h2.append (ZG.single hy),fun j u hu=>?_⟩;have ag:=h2.len;rw[h1] at ag;by_cases hj:j<rs.length
   ·rw[List.getElem?_append_left hj] at hu;exact h3 j u hu
   rw[List.getElem?_append_right (by omega)] at hu;have aj:j-rs.length<E.size:=by rw[<-h7];exact(List.getElem?_eq_some_iff.1 hu).1
   have:=h8 (j-rs.length) aj;rw[zPb,show k*E.size+(j-rs.length)=j by omega] at this;rw[this,hu]
 obtain⟨xs,rs,h1,h2,h3⟩:=af len (Qi _);subst h1;exact⟨xs,_,rfl,some a,cap,rs,rfl,hl,hm,Vh h3,h2⟩
theorem zIo:Tryz.prog.cellsOf 3=1:=by kernel_rfl
theorem zQq:Tryz.prog.cellsOf 9=1:=by kernel_rfl
theorem zJw:Tryz.prog.cellsOf 25=1:=by kernel_rfl
theorem zNg:Tryz.prog.cellsOf 22=1:=by kernel_rfl
theorem zJv:Tryz.prog.cellsOf 24=4:=by kernel_rfl
theorem zJ9 {fuel:Nat} {cs:List Value} {x:DataW H×List MemPlace} (h:DataW.trod enc Tryz.prog w base spare held fuel 3 cs=some x):∃n,cs=[.int .i64 n]/\Z4 n:=by
 obtain⟨n,rfl,_,hw⟩:=DataW.trod_int Tryz.underlying3 h;exact⟨n,rfl,bounds_i64 hw⟩
theorem zT5 {fuel:Nat} {cs:List Value} {x:DataW H×List MemPlace} (h:DataW.trod enc Tryz.prog w base spare held fuel 9 cs=some x):∃s:ByteArray,cs=[.string s]/\s.size<=maxLen:=by
 obtain⟨s,rfl,_,hw⟩:=DataW.trod_string Tryz.underlying9 h;exact⟨s,rfl,hw⟩
theorem zK9 {fuel:Nat} {cs:List Value} {x:DataW H×List MemPlace} (h:DataW.trod enc Tryz.prog w base spare held fuel 25 cs=some x):∃xs v,cs=[v]/\Z0 w (Lt w.heap.size) xs v :=
 zI8 ZA Tryz.underlying25 zIo (fun m _ cs x h=>by obtain⟨n,h1,h2⟩:=zJ9 h;exact⟨n,h1,h2⟩) h
theorem Vx {α:Type} {l:List α} {i:Nat} {o:Option α} (h:o=l[i]?) (hi:i<l.length):∃x,o=some x:=⟨l[i],by rw[h,List.getElem?_eq_getElem hi]⟩
theorem zPs (aa:Nat):∀(cs:List Value) (x:DataW H×List MemPlace),DataW.trod enc Tryz.prog w base spare held aa 24 cs=some x->∃t,Yh w (Lt w.heap.size) t cs:=by
 induction aa using Nat.strongRecOn with
 |ind aa ih =>
 intro cs x h;obtain⟨xs,n,hfu,hx,ae,ag,hf⟩:=DataW.trod_struct Tryz.underlying24 h;rw[zJv] at ae
 match cs,ae with
 |
  [c0,c1,c2,c3],_ =>
  have g0:DataW.trod enc Tryz.prog w base spare held n 3 (([c0,c1,c2,c3].drop 0).take (Tryz.prog.cellsOf 3))=xs[0]?:=hf 0 _ rfl;rw[zIo] at g0;have f0:DataW.trod enc Tryz.prog w base spare held n 3 [c0]=xs[0]?:=g0;have g1:DataW.trod enc Tryz.prog w base spare held n 9 (([c0,c1,c2,c3].drop 1).take (Tryz.prog.cellsOf 9))=xs[1]?:=hf 1 _ rfl;rw[zQq] at g1;have f1:DataW.trod enc Tryz.prog w base spare held n 9 [c1]=xs[1]?:=g1;have g2:DataW.trod enc Tryz.prog w base spare held n 3 (([c0,c1,c2,c3].drop 2).take (Tryz.prog.cellsOf 3))=xs[2]?:=hf 2 _ rfl;rw[zIo] at g2;have f2:DataW.trod enc Tryz.prog w base spare held n 3 [c2]=xs[2]?:=g2;have g3:DataW.trod enc Tryz.prog w base spare held n 22 (([c0,c1,c2,c3].drop 3).take (Tryz.prog.cellsOf 22))=xs[3]?:=hf 3 _ rfl;rw[zNg] at g3;have f3:DataW.trod enc Tryz.prog w base spare held n 22 [c3]=xs[3]?:=g3;have af:xs.length=4:=ag;obtain⟨y0,e0⟩:=Vx f0 (by omega);obtain⟨y1,e1⟩:=Vx f1 (by omega);obtain⟨y2,e2⟩:=Vx f2 (by omega);obtain⟨y3,e3⟩:=Vx f3 (by omega);obtain⟨k,q0,hk⟩:=zJ9 e0;obtain⟨s,q1,hs⟩:=zT5 e1;obtain⟨c,q2,hc⟩:=zJ9 e2;obtain⟨ts,v,q3,hts⟩:=zI8 Z6 Tryz.underlying22 zJv (fun m hm cs x h=>ih m (by omega) cs x h) e3;simp only[List.cons.injEq,and_true] at q0 q1 q2 q3;subst q0 q1 q2 q3;exact⟨.mk k s c ts,Yl.2 ⟨_,rfl,hk,hc,hs,hts⟩⟩
theorem zUl {fuel:Nat} {cs:List Value} {x:DataW H×List MemPlace} (h:DataW.trod enc Tryz.prog w base spare held fuel 22 cs=some x):∃ts v,cs=[v]/\QW w (Lt w.heap.size) ts v :=
 zI8 Z6 Tryz.underlying22 zJv (fun m _ cs x h=>zPs m cs x h) h
theorem UW {f:Func} {s:ChangeSpec} {W W':World} {args:Array Value} {ds gs:List (DataW H)} {before:List MemPlace}
  (ag:s.vars=[]) (ak:f.resultTypes=#[4]) (ae:s.fn H ds={ results:=[.lit (.bool true)],args:=ds })
  (hl:laidOutB Tryz.prog=true) (hr:∀t∈f.params.toList,Tryz.prog.readableRec t=true/\t<Tryz.prog.types.size)
  (hW:DataW.Whole enc Tryz.prog f.params.toList s.vars false W args.toList ds gs before) (hb:Below W.heap.size W W') :
  s.post enc Tryz.prog f false true false false W args (.bool true) W':=by
 have aA:∀p∈before,p.block<W.heap.size:=fun p hp=>hW.lt p hp
 have au:∀p∈before,(fun b=>decide (b<W.heap.size)) p.block=true:=fun p hp=>by simpa using aA p hp
 have aG:=hW;obtain⟨p,q,hA,hV,rfl,hz,hn⟩:=hW;rw[ag] at hV;obtain⟨rfl,rfl⟩:=trodVars_none hV;have ax:∀(ts:List TypeId) (vs:List Value) (ds:List (DataW H)) (ps:List MemPlace),(∀t∈ts,Tryz.prog.readableRec t=true/\t<Tryz.prog.types.size)->(∀x∈ps,x∈p++[])->DataW.TrodAll enc Tryz.prog W 0 (fun _=>true) true ts vs ds ps ->
   ∀sp:Nat->Bool,(∀x∈p++[],sp x.block=true)->DataW.TrodAll enc Tryz.prog W' 0 sp true ts vs ds ps:=by
  intro ts;induction ts with
  |
   nil =>
   intro vs ds ps _ _ h sp _;cases vs<;>cases ds<;>simp[DataW.TrodAll] at h;subst h;exact trodAll_mk0
  |
   cons t ts ih =>
   intro vs ds ps az aj h sp ay;obtain⟨v,aC,d,aH,p',q',rfl,rfl,rfl,h1,h2⟩:=trodAll_cons h;refine⟨p',q',?_,ih aC aH q' (fun t' aD=>az t' (by simp[aD])) (fun x hx=>aj x (by simp[hx])) h2 sp ay,rfl⟩;exact WideElems.Trod_stays hl (az t (by simp)).1 (az t (by simp)).2 h1 (fun x hx=>hb.same (aA x (aj x (by simp[hx])))) (fun x hx=>ay x (aj x (by simp[hx])))
 have av:=ax f.params.toList args.toList ds p hr (fun x hx=>by simpa using hx) hA;have ah:∀(b:Nat) (sp:Nat->Bool) (hd:Bool),DataW.TrodAll enc Tryz.prog W' b sp hd f.resultTypes.toList ((Value.bool true).resultList f.resultTypes.size) (s.fn H (ds++[])).results []:=by
  intro b sp hd;rw[List.append_nil,ae,ak];exact⟨[],[],shut_bool Tryz.underlying4 true,trodAll_mk0,rfl⟩
 have aF:∀(j:Nat) (t:TypeId) (r:Value),f.resultTypes[j]?=some t->((Value.bool true).resultList f.resultTypes.size)[j]?=some r->Value.okWide Tryz.prog W' .any 0 t r :=
  ok_one ak rfl (okWide_bool_mk Tryz.underlying4 _)
 have af:∀sp:Nat->Bool,(∀x∈p++[],sp x.block=true)->DataW.TrodAll enc Tryz.prog W' 0 sp true f.params.toList args.toList (s.fn H (ds++[])).args p:=by
  intro sp ay;rw[List.append_nil,ae];exact av sp ay
 have aa:∀sp:Nat->Bool,(∀x∈p++[],sp x.block=true)->DataW.TrodVars enc Tryz.prog W' sp s.vars (s.fn H (ds++[])).vars []:=by
  intro sp _;rw[List.append_nil,ae,ag];rfl
 refine⟨ds,[],p++[],[],p,[],aG,ah _ _ _,af _ au,aa _ au,World.keptBut_mono (fun x hx=>⟨hx,by simpa using hx⟩) (hb.frame (·∈p++[])),fun _=>?_⟩;refine⟨aF,_,_,([]++p)++[],⟨[]++p,[],trodAll_append (af _ (fun _ _=>rfl)) (ah _ _ _),aa _ (fun _ _=>rfl),rfl,?_,?_⟩,?_⟩
 ·intro b aB hp;have aj:MemPlace.cell b aB∈p++[]:=by simpa using hp
  rw[hb.frozen (aA _ aj)];exact hz b aB aj
 ·intro ha;cases ha
 intro x hx _;simpa using hx
end
